/- What the program says of its types. -/
import Derived.Test.YtfadclnaahanmaaBf
import Derived.Test.YtfadclnaahanmaaProg
import Derived.KernelRfl
set_option linter.unusedVariables false
set_option linter.unusedSimpArgs false
namespace Go.Abs
open Go Go.Proofs

theorem T.hm : Try.prog.follows .mixedOrders = true := by kernel_rfl
theorem T.z2 : sized Try.prog 2 = true := by kernel_rfl
theorem T.s2 : szOf Try.prog 2 = 1 := by kernel_rfl
theorem T.r2 : isRowT Try.prog 2 = some false := by kernel_rfl
theorem T.i2 : isSliceT Try.prog 2 = false := by kernel_rfl
theorem T.z3 : sized Try.prog 3 = true := by kernel_rfl
theorem T.s3 : szOf Try.prog 3 = 1 := by kernel_rfl
theorem T.r3 : isRowT Try.prog 3 = some false := by kernel_rfl
theorem T.i3 : isSliceT Try.prog 3 = false := by kernel_rfl
theorem T.z4 : sized Try.prog 4 = true := by kernel_rfl
theorem T.s4 : szOf Try.prog 4 = 1 := by kernel_rfl
theorem T.r4 : isRowT Try.prog 4 = some false := by kernel_rfl
theorem T.z5 : sized Try.prog 5 = true := by kernel_rfl
theorem T.s5 : szOf Try.prog 5 = 1 := by kernel_rfl
theorem T.r5 : isRowT Try.prog 5 = some false := by kernel_rfl
theorem T.i5 : isSliceT Try.prog 5 = false := by kernel_rfl
theorem T.z9 : sized Try.prog 9 = true := by kernel_rfl
theorem T.s9 : szOf Try.prog 9 = 1 := by kernel_rfl
theorem T.r9 : isRowT Try.prog 9 = some false := by kernel_rfl
theorem T.z22 : sized Try.prog 38 = true := by kernel_rfl
theorem T.s22 : szOf Try.prog 38 = 1 := by kernel_rfl
theorem T.r22 : isRowT Try.prog 38 = some false := by kernel_rfl
theorem T.i22 : isSliceT Try.prog 38 = true := by kernel_rfl
theorem T.o22 : okSrc Try.prog 38 = true := by kernel_rfl
theorem T.z24 : sized Try.prog 40 = true := by kernel_rfl
theorem T.s24 : szOf Try.prog 40 = 2 := by kernel_rfl
theorem T.r24 : isRowT Try.prog 40 = some true := by kernel_rfl
theorem T.z27 : sized Try.prog 52 = true := by kernel_rfl
theorem T.s27 : szOf Try.prog 52 = 1 := by kernel_rfl
theorem T.r27 : isRowT Try.prog 52 = some false := by kernel_rfl
theorem T.i27 : isSliceT Try.prog 52 = false := by kernel_rfl
theorem T.z50 : sized Try.prog 96 = true := by kernel_rfl
theorem T.s50 : szOf Try.prog 96 = 1 := by kernel_rfl
theorem T.r50 : isRowT Try.prog 96 = some false := by kernel_rfl
theorem T.i50 : isSliceT Try.prog 96 = false := by kernel_rfl
theorem T.z55 : sized Try.prog 47 = true := by kernel_rfl
theorem T.s55 : szOf Try.prog 47 = 4 := by kernel_rfl
theorem T.r55 : isRowT Try.prog 47 = some true := by kernel_rfl
theorem T.z70 : sized Try.prog 45 = true := by kernel_rfl
theorem T.s70 : szOf Try.prog 45 = 1 := by kernel_rfl
theorem T.r70 : isRowT Try.prog 45 = some false := by kernel_rfl
theorem T.i70 : isSliceT Try.prog 45 = true := by kernel_rfl
theorem T.z72 : sized Try.prog 23 = true := by kernel_rfl
theorem T.s72 : szOf Try.prog 23 = 1 := by kernel_rfl
theorem T.r72 : isRowT Try.prog 23 = some false := by kernel_rfl
theorem T.i72 : isSliceT Try.prog 23 = true := by kernel_rfl
theorem T.z107 : sized Try.prog 62 = true := by kernel_rfl
theorem T.s107 : szOf Try.prog 62 = 4 := by kernel_rfl
theorem T.r107 : isRowT Try.prog 62 = some true := by kernel_rfl
theorem T.z110 : sized Try.prog 65 = true := by kernel_rfl
theorem T.s110 : szOf Try.prog 65 = 8 := by kernel_rfl
theorem T.r110 : isRowT Try.prog 65 = some true := by kernel_rfl
theorem T.z114 : sized Try.prog 72 = true := by kernel_rfl
theorem T.s114 : szOf Try.prog 72 = 1 := by kernel_rfl
theorem T.r114 : isRowT Try.prog 72 = some false := by kernel_rfl
theorem T.i114 : isSliceT Try.prog 72 = true := by kernel_rfl
theorem T.z115 : sized Try.prog 73 = true := by kernel_rfl
theorem T.s115 : szOf Try.prog 73 = 1 := by kernel_rfl
theorem T.r115 : isRowT Try.prog 73 = some false := by kernel_rfl
theorem T.i115 : isSliceT Try.prog 73 = false := by kernel_rfl
theorem T.z116 : sized Try.prog 74 = true := by kernel_rfl
theorem T.s116 : szOf Try.prog 74 = 1 := by kernel_rfl
theorem T.r116 : isRowT Try.prog 74 = some false := by kernel_rfl
theorem T.i116 : isSliceT Try.prog 74 = true := by kernel_rfl
theorem T.z121 : sized Try.prog 25 = true := by kernel_rfl
theorem T.s121 : szOf Try.prog 25 = 1 := by kernel_rfl
theorem T.r121 : isRowT Try.prog 25 = some true := by kernel_rfl
theorem T.z126 : sized Try.prog 30 = true := by kernel_rfl
theorem T.s126 : szOf Try.prog 30 = 1 := by kernel_rfl
theorem T.r126 : isRowT Try.prog 30 = some false := by kernel_rfl
theorem T.i126 : isSliceT Try.prog 30 = true := by kernel_rfl
theorem T.z127 : sized Try.prog 31 = true := by kernel_rfl
theorem T.s127 : szOf Try.prog 31 = 1 := by kernel_rfl
theorem T.r127 : isRowT Try.prog 31 = some false := by kernel_rfl
theorem T.i127 : isSliceT Try.prog 31 = true := by kernel_rfl
theorem T.z128 : sized Try.prog 32 = true := by kernel_rfl
theorem T.s128 : szOf Try.prog 32 = 1 := by kernel_rfl
theorem T.r128 : isRowT Try.prog 32 = some false := by kernel_rfl
theorem T.i128 : isSliceT Try.prog 32 = true := by kernel_rfl
theorem T.z129 : sized Try.prog 33 = true := by kernel_rfl
theorem T.s129 : szOf Try.prog 33 = 1 := by kernel_rfl
theorem T.r129 : isRowT Try.prog 33 = some false := by kernel_rfl
theorem T.i129 : isSliceT Try.prog 33 = true := by kernel_rfl
theorem T.z131 : sized Try.prog 35 = true := by kernel_rfl
theorem T.s131 : szOf Try.prog 35 = 4 := by kernel_rfl
theorem T.r131 : isRowT Try.prog 35 = some true := by kernel_rfl
theorem T.z142 : sized Try.prog 86 = true := by kernel_rfl
theorem T.s142 : szOf Try.prog 86 = 1 := by kernel_rfl
theorem T.r142 : isRowT Try.prog 86 = some false := by kernel_rfl
theorem T.i142 : isSliceT Try.prog 86 = true := by kernel_rfl
theorem T.z143 : sized Try.prog 87 = true := by kernel_rfl
theorem T.s143 : szOf Try.prog 87 = 1 := by kernel_rfl
theorem T.r143 : isRowT Try.prog 87 = some false := by kernel_rfl
theorem T.i143 : isSliceT Try.prog 87 = true := by kernel_rfl
theorem T.z145 : sized Try.prog 89 = true := by kernel_rfl
theorem T.s145 : szOf Try.prog 89 = 6 := by kernel_rfl
theorem T.r145 : isRowT Try.prog 89 = some true := by kernel_rfl
theorem T.z147 : sized Try.prog 97 = true := by kernel_rfl
theorem T.s147 : szOf Try.prog 97 = 1 := by kernel_rfl
theorem T.r147 : isRowT Try.prog 97 = some false := by kernel_rfl
theorem T.i147 : isSliceT Try.prog 97 = true := by kernel_rfl
theorem T.o147 : okSrc Try.prog 97 = true := by kernel_rfl
theorem T.z155 : sized Try.prog 102 = true := by kernel_rfl
theorem T.s155 : szOf Try.prog 102 = 1 := by kernel_rfl
theorem T.r155 : isRowT Try.prog 102 = some false := by kernel_rfl
theorem T.i155 : isSliceT Try.prog 102 = false := by kernel_rfl
theorem T.z156 : sized Try.prog 104 = true := by kernel_rfl
theorem T.s156 : szOf Try.prog 104 = 1 := by kernel_rfl
theorem T.r156 : isRowT Try.prog 104 = some false := by kernel_rfl
theorem T.i156 : isSliceT Try.prog 104 = false := by kernel_rfl
theorem T.z190 : sized Try.prog 92 = true := by kernel_rfl
theorem T.s190 : szOf Try.prog 92 = 4 := by kernel_rfl
theorem T.r190 : isRowT Try.prog 92 = some true := by kernel_rfl
theorem T.z191 : sized Try.prog 93 = true := by kernel_rfl
theorem T.s191 : szOf Try.prog 93 = 1 := by kernel_rfl
theorem T.r191 : isRowT Try.prog 93 = some false := by kernel_rfl
theorem T.i191 : isSliceT Try.prog 93 = true := by kernel_rfl
theorem T.z193 : sized Try.prog 95 = true := by kernel_rfl
theorem T.s193 : szOf Try.prog 95 = 2 := by kernel_rfl
theorem T.r193 : isRowT Try.prog 95 = some true := by kernel_rfl
theorem T.z216 : sized Try.prog 121 = true := by kernel_rfl
theorem T.s216 : szOf Try.prog 121 = 4 := by kernel_rfl
theorem T.r216 : isRowT Try.prog 121 = some true := by kernel_rfl
theorem T.z244 : sized Try.prog 141 = true := by kernel_rfl
theorem T.s244 : szOf Try.prog 141 = 1 := by kernel_rfl
theorem T.r244 : isRowT Try.prog 141 = some false := by kernel_rfl
theorem T.l2 {H : Heap} {b off : Nat} : aLoad Try.prog H 2 (.pointer (some ⟨b, off, none⟩)) = rowAt (H.get b) off := load_one T.r2
theorem T.lp2 {H : Heap} {v : Value} : aLoad Try.prog H 2 (fpv [v]) = some v := load_fz_one T.r2
theorem T.w2 {H : Heap} {b off : Nat} {x : Int}  : aStore Try.prog H 2 (.pointer (some ⟨b, off, none⟩)) (.int .i64 x) = stRow H b off [.int .i64 x] (H.get b) := store_row (vs := [.int .i64 x]) T.z2 T.s2 (rfl) rfl (rfl)
theorem T.new2 : aNew Try.prog (fun _ => none) (.alloc 2) = some (2, [.int .i64 0], fun b => .pointer (some ⟨b, 0, none⟩)) := by kernel_rfl
theorem T.alloc2 {H : Heap} {e : Env} {K : Value → Heap → Prop} {d : Option Tmp} {ty : TypeId} {ps : String} {af : Array Edge} {gd : Option (Nat × Bool)} : aStep Try.prog e H ⟨d, .alloc 2, ty, ps, af, gd⟩ K = K (.pointer (some ⟨H.next, 0, none⟩)) (H.push (.row true 2 [.int .i64 0])) := s_alloc T.new2
theorem T.l3 {H : Heap} {b off : Nat} : aLoad Try.prog H 3 (.pointer (some ⟨b, off, none⟩)) = rowAt (H.get b) off := load_one T.r3
theorem T.lp3 {H : Heap} {v : Value} : aLoad Try.prog H 3 (fpv [v]) = some v := load_fz_one T.r3
theorem T.w3 {H : Heap} {b off : Nat} {x : Int}  : aStore Try.prog H 3 (.pointer (some ⟨b, off, none⟩)) (.int .i64 x) = stRow H b off [.int .i64 x] (H.get b) := store_row (vs := [.int .i64 x]) T.z3 T.s3 (rfl) rfl (rfl)
theorem T.new3 : aNew Try.prog (fun _ => none) (.alloc 3) = some (3, [.int .i64 0], fun b => .pointer (some ⟨b, 0, none⟩)) := by kernel_rfl
theorem T.alloc3 {H : Heap} {e : Env} {K : Value → Heap → Prop} {d : Option Tmp} {ty : TypeId} {ps : String} {af : Array Edge} {gd : Option (Nat × Bool)} : aStep Try.prog e H ⟨d, .alloc 3, ty, ps, af, gd⟩ K = K (.pointer (some ⟨H.next, 0, none⟩)) (H.push (.row true 3 [.int .i64 0])) := s_alloc T.new3
theorem T.l4 {H : Heap} {b off : Nat} : aLoad Try.prog H 4 (.pointer (some ⟨b, off, none⟩)) = rowAt (H.get b) off := load_one T.r4
theorem T.lp4 {H : Heap} {v : Value} : aLoad Try.prog H 4 (fpv [v]) = some v := load_fz_one T.r4
theorem T.w4 {H : Heap} {b off : Nat} {x : Bool}  : aStore Try.prog H 4 (.pointer (some ⟨b, off, none⟩)) (.bool x) = stRow H b off [.bool x] (H.get b) := store_row (vs := [.bool x]) T.z4 T.s4 (rfl) rfl (rfl)
theorem T.new4 : aNew Try.prog (fun _ => none) (.alloc 4) = some (4, [.bool false], fun b => .pointer (some ⟨b, 0, none⟩)) := by kernel_rfl
theorem T.alloc4 {H : Heap} {e : Env} {K : Value → Heap → Prop} {d : Option Tmp} {ty : TypeId} {ps : String} {af : Array Edge} {gd : Option (Nat × Bool)} : aStep Try.prog e H ⟨d, .alloc 4, ty, ps, af, gd⟩ K = K (.pointer (some ⟨H.next, 0, none⟩)) (H.push (.row true 4 [.bool false])) := s_alloc T.new4
theorem T.l5 {H : Heap} {b off : Nat} : aLoad Try.prog H 5 (.pointer (some ⟨b, off, none⟩)) = rowAt (H.get b) off := load_one T.r5
theorem T.lp5 {H : Heap} {v : Value} : aLoad Try.prog H 5 (fpv [v]) = some v := load_fz_one T.r5
theorem T.w5 {H : Heap} {b off : Nat} {x : Int}  : aStore Try.prog H 5 (.pointer (some ⟨b, off, none⟩)) (.int .u8 x) = stRow H b off [.int .u8 x] (H.get b) := store_row (vs := [.int .u8 x]) T.z5 T.s5 (rfl) rfl (rfl)
theorem T.new5 : aNew Try.prog (fun _ => none) (.alloc 5) = some (5, [.int .u8 0], fun b => .pointer (some ⟨b, 0, none⟩)) := by kernel_rfl
theorem T.alloc5 {H : Heap} {e : Env} {K : Value → Heap → Prop} {d : Option Tmp} {ty : TypeId} {ps : String} {af : Array Edge} {gd : Option (Nat × Bool)} : aStep Try.prog e H ⟨d, .alloc 5, ty, ps, af, gd⟩ K = K (.pointer (some ⟨H.next, 0, none⟩)) (H.push (.row true 5 [.int .u8 0])) := s_alloc T.new5
theorem T.l9 {H : Heap} {b off : Nat} : aLoad Try.prog H 9 (.pointer (some ⟨b, off, none⟩)) = rowAt (H.get b) off := load_one T.r9
theorem T.lp9 {H : Heap} {v : Value} : aLoad Try.prog H 9 (fpv [v]) = some v := load_fz_one T.r9
theorem T.w9 {H : Heap} {b off : Nat} {x : ByteArray}  : aStore Try.prog H 9 (.pointer (some ⟨b, off, none⟩)) (.string x) = stRow H b off [.string x] (H.get b) := store_row (vs := [.string x]) T.z9 T.s9 (rfl) rfl (rfl)
theorem T.new9 : aNew Try.prog (fun _ => none) (.alloc 9) = some (9, [.string ByteArray.empty], fun b => .pointer (some ⟨b, 0, none⟩)) := by kernel_rfl
theorem T.alloc9 {H : Heap} {e : Env} {K : Value → Heap → Prop} {d : Option Tmp} {ty : TypeId} {ps : String} {af : Array Edge} {gd : Option (Nat × Bool)} : aStep Try.prog e H ⟨d, .alloc 9, ty, ps, af, gd⟩ K = K (.pointer (some ⟨H.next, 0, none⟩)) (H.push (.row true 9 [.string ByteArray.empty])) := s_alloc T.new9
theorem T.l22 {H : Heap} {b off : Nat} : aLoad Try.prog H 38 (.pointer (some ⟨b, off, none⟩)) = rowAt (H.get b) off := load_one T.r22
theorem T.lp22 {H : Heap} {v : Value} : aLoad Try.prog H 38 (fpv [v]) = some v := load_fz_one T.r22
theorem T.w22 {H : Heap} {b off : Nat} {x : Value} (hx : isSl x = true) : aStore Try.prog H 38 (.pointer (some ⟨b, off, none⟩)) (x) = stRow H b off [x] (H.get b) := store_row (vs := [x]) T.z22 T.s22 (isSl_cells hx) rfl (by simp only [List.all_cons, List.all_nil, isSl_one hx, Bool.and_true])
theorem T.new22 : aNew Try.prog (fun _ => none) (.alloc 38) = some (38, [.slice none 0 0], fun b => .pointer (some ⟨b, 0, none⟩)) := by kernel_rfl
theorem T.alloc22 {H : Heap} {e : Env} {K : Value → Heap → Prop} {d : Option Tmp} {ty : TypeId} {ps : String} {af : Array Edge} {gd : Option (Nat × Bool)} : aStep Try.prog e H ⟨d, .alloc 38, ty, ps, af, gd⟩ K = K (.pointer (some ⟨H.next, 0, none⟩)) (H.push (.row true 38 [.slice none 0 0])) := s_alloc T.new22
theorem T.f24_0 {b o : Nat} : aFieldAddr Try.prog 40 (.pointer (some ⟨b, o, none⟩)) 0 = some (.pointer (some ⟨b, o + 0, none⟩)) := faddr_own Try.underlying40 (by rfl) T.z4 T.s4 (by decide)
theorem T.fs24_0 {v : Value} {o : Nat} : aFieldAddr Try.prog 40 (.pointer (some (sadr v o))) 0 = some (.pointer (some (sadr v (o + 0)))) := T.f24_0
theorem T.fp24_0 {v0 v1 : Value} : aFieldAddr Try.prog 40 (fpv [v0, v1]) 0 = some (fpv [v0]) := faddr_fz (cells := [v0, v1]) (f := 0) (off := 0) (k := 1) Try.underlying40 (by rfl) T.z4 T.s4 (by decide) (by simp)
theorem T.fd24_0 {v0 v1 : Value} : aField Try.prog 40 (.agg ⟨[v0, v1]⟩) 0 = some v0 := field_one (cells := [v0, v1]) (f := 0) (off := 0) Try.underlying40 (by rfl) T.r4 rfl
theorem T.f24_1 {b o : Nat} : aFieldAddr Try.prog 40 (.pointer (some ⟨b, o, none⟩)) 1 = some (.pointer (some ⟨b, o + 1, none⟩)) := faddr_own Try.underlying40 (by rfl) T.z22 T.s22 (by decide)
theorem T.fs24_1 {v : Value} {o : Nat} : aFieldAddr Try.prog 40 (.pointer (some (sadr v o))) 1 = some (.pointer (some (sadr v (o + 1)))) := T.f24_1
theorem T.fp24_1 {v0 v1 : Value} : aFieldAddr Try.prog 40 (fpv [v0, v1]) 1 = some (fpv [v1]) := faddr_fz (cells := [v0, v1]) (f := 1) (off := 1) (k := 1) Try.underlying40 (by rfl) T.z22 T.s22 (by decide) (by simp)
theorem T.fd24_1 {v0 v1 : Value} : aField Try.prog 40 (.agg ⟨[v0, v1]⟩) 1 = some v1 := field_one (cells := [v0, v1]) (f := 1) (off := 1) Try.underlying40 (by rfl) T.r22 rfl
theorem T.l24 {H : Heap} {b off : Nat} : aLoad Try.prog H 40 (.pointer (some ⟨b, off, none⟩)) = (rowsAt (H.get b) off 2).map fun l => .agg ⟨l⟩ := by rw [load_row T.r24 T.z24, T.s24]
theorem T.lp24 {H : Heap} {v0 v1 : Value} : aLoad Try.prog H 40 (fpv [v0, v1]) = some (.agg ⟨[v0, v1]⟩) := load_fz_row T.r24 T.z24 T.s24 rfl
theorem T.w24 {H : Heap} {b off : Nat} {x0 : Bool} {x1 : Value} (hx1 : isSl x1 = true) : aStore Try.prog H 40 (.pointer (some ⟨b, off, none⟩)) (.agg ⟨[.bool x0, x1]⟩) = stRow H b off [.bool x0, x1] (H.get b) := store_row (vs := [.bool x0, x1]) T.z24 T.s24 rfl rfl (by simp only [List.all_cons, List.all_nil, isSl_one hx1, Bool.and_true] <;> rfl)
theorem T.new24 : aNew Try.prog (fun _ => none) (.alloc 40) = some (40, [.bool false, .slice none 0 0], fun b => .pointer (some ⟨b, 0, none⟩)) := by kernel_rfl
theorem T.alloc24 {H : Heap} {e : Env} {K : Value → Heap → Prop} {d : Option Tmp} {ty : TypeId} {ps : String} {af : Array Edge} {gd : Option (Nat × Bool)} : aStep Try.prog e H ⟨d, .alloc 40, ty, ps, af, gd⟩ K = K (.pointer (some ⟨H.next, 0, none⟩)) (H.push (.row true 40 [.bool false, .slice none 0 0])) := s_alloc T.new24
theorem T.l27 {H : Heap} {b off : Nat} : aLoad Try.prog H 52 (.pointer (some ⟨b, off, none⟩)) = rowAt (H.get b) off := load_one T.r27
theorem T.lp27 {H : Heap} {v : Value} : aLoad Try.prog H 52 (fpv [v]) = some v := load_fz_one T.r27
theorem T.w27 {H : Heap} {b off : Nat} {x : Int}  : aStore Try.prog H 52 (.pointer (some ⟨b, off, none⟩)) (.int .i64 x) = stRow H b off [.int .i64 x] (H.get b) := store_row (vs := [.int .i64 x]) T.z27 T.s27 (rfl) rfl (rfl)
theorem T.new27 : aNew Try.prog (fun _ => none) (.alloc 52) = some (52, [.int .i64 0], fun b => .pointer (some ⟨b, 0, none⟩)) := by kernel_rfl
theorem T.alloc27 {H : Heap} {e : Env} {K : Value → Heap → Prop} {d : Option Tmp} {ty : TypeId} {ps : String} {af : Array Edge} {gd : Option (Nat × Bool)} : aStep Try.prog e H ⟨d, .alloc 52, ty, ps, af, gd⟩ K = K (.pointer (some ⟨H.next, 0, none⟩)) (H.push (.row true 52 [.int .i64 0])) := s_alloc T.new27
theorem T.l50 {H : Heap} {b off : Nat} : aLoad Try.prog H 96 (.pointer (some ⟨b, off, none⟩)) = rowAt (H.get b) off := load_one T.r50
theorem T.lp50 {H : Heap} {v : Value} : aLoad Try.prog H 96 (fpv [v]) = some v := load_fz_one T.r50
theorem T.w50 {H : Heap} {b off : Nat} {x : Int}  : aStore Try.prog H 96 (.pointer (some ⟨b, off, none⟩)) (.int .u32 x) = stRow H b off [.int .u32 x] (H.get b) := store_row (vs := [.int .u32 x]) T.z50 T.s50 (rfl) rfl (rfl)
theorem T.new50 : aNew Try.prog (fun _ => none) (.alloc 96) = some (96, [.int .u32 0], fun b => .pointer (some ⟨b, 0, none⟩)) := by kernel_rfl
theorem T.alloc50 {H : Heap} {e : Env} {K : Value → Heap → Prop} {d : Option Tmp} {ty : TypeId} {ps : String} {af : Array Edge} {gd : Option (Nat × Bool)} : aStep Try.prog e H ⟨d, .alloc 96, ty, ps, af, gd⟩ K = K (.pointer (some ⟨H.next, 0, none⟩)) (H.push (.row true 96 [.int .u32 0])) := s_alloc T.new50
theorem T.f55_0 {b o : Nat} : aFieldAddr Try.prog 47 (.pointer (some ⟨b, o, none⟩)) 0 = some (.pointer (some ⟨b, o + 0, none⟩)) := faddr_own Try.underlying47 (by rfl) T.z24 T.s24 (by decide)
theorem T.fs55_0 {v : Value} {o : Nat} : aFieldAddr Try.prog 47 (.pointer (some (sadr v o))) 0 = some (.pointer (some (sadr v (o + 0)))) := T.f55_0
theorem T.fp55_0 {v0 v1 v2 v3 : Value} : aFieldAddr Try.prog 47 (fpv [v0, v1, v2, v3]) 0 = some (fpv [v0, v1]) := faddr_fz (cells := [v0, v1, v2, v3]) (f := 0) (off := 0) (k := 2) Try.underlying47 (by rfl) T.z24 T.s24 (by decide) (by simp)
theorem T.fd55_0 {v0 v1 v2 v3 : Value} : aField Try.prog 47 (.agg ⟨[v0, v1, v2, v3]⟩) 0 = some (.agg ⟨[v0, v1]⟩) := field_row (cells := [v0, v1, v2, v3]) (f := 0) (off := 0) (k := 2) Try.underlying47 (by rfl) T.r24 T.z24 T.s24
theorem T.f55_1 {b o : Nat} : aFieldAddr Try.prog 47 (.pointer (some ⟨b, o, none⟩)) 1 = some (.pointer (some ⟨b, o + 2, none⟩)) := faddr_own Try.underlying47 (by rfl) T.z24 T.s24 (by decide)
theorem T.fs55_1 {v : Value} {o : Nat} : aFieldAddr Try.prog 47 (.pointer (some (sadr v o))) 1 = some (.pointer (some (sadr v (o + 2)))) := T.f55_1
theorem T.fp55_1 {v0 v1 v2 v3 : Value} : aFieldAddr Try.prog 47 (fpv [v0, v1, v2, v3]) 1 = some (fpv [v2, v3]) := faddr_fz (cells := [v0, v1, v2, v3]) (f := 1) (off := 2) (k := 2) Try.underlying47 (by rfl) T.z24 T.s24 (by decide) (by simp)
theorem T.fd55_1 {v0 v1 v2 v3 : Value} : aField Try.prog 47 (.agg ⟨[v0, v1, v2, v3]⟩) 1 = some (.agg ⟨[v2, v3]⟩) := field_row (cells := [v0, v1, v2, v3]) (f := 1) (off := 2) (k := 2) Try.underlying47 (by rfl) T.r24 T.z24 T.s24
theorem T.l55 {H : Heap} {b off : Nat} : aLoad Try.prog H 47 (.pointer (some ⟨b, off, none⟩)) = (rowsAt (H.get b) off 4).map fun l => .agg ⟨l⟩ := by rw [load_row T.r55 T.z55, T.s55]
theorem T.lp55 {H : Heap} {v0 v1 v2 v3 : Value} : aLoad Try.prog H 47 (fpv [v0, v1, v2, v3]) = some (.agg ⟨[v0, v1, v2, v3]⟩) := load_fz_row T.r55 T.z55 T.s55 rfl
theorem T.w55 {H : Heap} {b off : Nat} {x00 : Bool} {x01 : Value} {x10 : Bool} {x11 : Value} (hx01 : isSl x01 = true) (hx11 : isSl x11 = true) : aStore Try.prog H 47 (.pointer (some ⟨b, off, none⟩)) (.agg ⟨[.bool x00, x01, .bool x10, x11]⟩) = stRow H b off [.bool x00, x01, .bool x10, x11] (H.get b) := store_row (vs := [.bool x00, x01, .bool x10, x11]) T.z55 T.s55 rfl rfl (by simp only [List.all_cons, List.all_nil, isSl_one hx01, isSl_one hx11, Bool.and_true] <;> rfl)
theorem T.new55 : aNew Try.prog (fun _ => none) (.alloc 47) = some (47, [.bool false, .slice none 0 0, .bool false, .slice none 0 0], fun b => .pointer (some ⟨b, 0, none⟩)) := by kernel_rfl
theorem T.alloc55 {H : Heap} {e : Env} {K : Value → Heap → Prop} {d : Option Tmp} {ty : TypeId} {ps : String} {af : Array Edge} {gd : Option (Nat × Bool)} : aStep Try.prog e H ⟨d, .alloc 47, ty, ps, af, gd⟩ K = K (.pointer (some ⟨H.next, 0, none⟩)) (H.push (.row true 47 [.bool false, .slice none 0 0, .bool false, .slice none 0 0])) := s_alloc T.new55
theorem T.l70 {H : Heap} {b off : Nat} : aLoad Try.prog H 45 (.pointer (some ⟨b, off, none⟩)) = rowAt (H.get b) off := load_one T.r70
theorem T.lp70 {H : Heap} {v : Value} : aLoad Try.prog H 45 (fpv [v]) = some v := load_fz_one T.r70
theorem T.w70 {H : Heap} {b off : Nat} {x : Value} (hx : isSl x = true) : aStore Try.prog H 45 (.pointer (some ⟨b, off, none⟩)) (x) = stRow H b off [x] (H.get b) := store_row (vs := [x]) T.z70 T.s70 (isSl_cells hx) rfl (by simp only [List.all_cons, List.all_nil, isSl_one hx, Bool.and_true])
theorem T.new70 : aNew Try.prog (fun _ => none) (.alloc 45) = some (45, [.slice none 0 0], fun b => .pointer (some ⟨b, 0, none⟩)) := by kernel_rfl
theorem T.alloc70 {H : Heap} {e : Env} {K : Value → Heap → Prop} {d : Option Tmp} {ty : TypeId} {ps : String} {af : Array Edge} {gd : Option (Nat × Bool)} : aStep Try.prog e H ⟨d, .alloc 45, ty, ps, af, gd⟩ K = K (.pointer (some ⟨H.next, 0, none⟩)) (H.push (.row true 45 [.slice none 0 0])) := s_alloc T.new70
theorem T.l72 {H : Heap} {b off : Nat} : aLoad Try.prog H 23 (.pointer (some ⟨b, off, none⟩)) = rowAt (H.get b) off := load_one T.r72
theorem T.lp72 {H : Heap} {v : Value} : aLoad Try.prog H 23 (fpv [v]) = some v := load_fz_one T.r72
theorem T.w72 {H : Heap} {b off : Nat} {x : Value} (hx : isSl x = true) : aStore Try.prog H 23 (.pointer (some ⟨b, off, none⟩)) (x) = stRow H b off [x] (H.get b) := store_row (vs := [x]) T.z72 T.s72 (isSl_cells hx) rfl (by simp only [List.all_cons, List.all_nil, isSl_one hx, Bool.and_true])
theorem T.new72 : aNew Try.prog (fun _ => none) (.alloc 23) = some (23, [.slice none 0 0], fun b => .pointer (some ⟨b, 0, none⟩)) := by kernel_rfl
theorem T.alloc72 {H : Heap} {e : Env} {K : Value → Heap → Prop} {d : Option Tmp} {ty : TypeId} {ps : String} {af : Array Edge} {gd : Option (Nat × Bool)} : aStep Try.prog e H ⟨d, .alloc 23, ty, ps, af, gd⟩ K = K (.pointer (some ⟨H.next, 0, none⟩)) (H.push (.row true 23 [.slice none 0 0])) := s_alloc T.new72
theorem T.f107_0 {b o : Nat} : aFieldAddr Try.prog 62 (.pointer (some ⟨b, o, none⟩)) 0 = some (.pointer (some ⟨b, o + 0, none⟩)) := faddr_own Try.underlying62 (by rfl) T.z3 T.s3 (by decide)
theorem T.fs107_0 {v : Value} {o : Nat} : aFieldAddr Try.prog 62 (.pointer (some (sadr v o))) 0 = some (.pointer (some (sadr v (o + 0)))) := T.f107_0
theorem T.fp107_0 {v0 v1 v2 v3 : Value} : aFieldAddr Try.prog 62 (fpv [v0, v1, v2, v3]) 0 = some (fpv [v0]) := faddr_fz (cells := [v0, v1, v2, v3]) (f := 0) (off := 0) (k := 1) Try.underlying62 (by rfl) T.z3 T.s3 (by decide) (by simp)
theorem T.fd107_0 {v0 v1 v2 v3 : Value} : aField Try.prog 62 (.agg ⟨[v0, v1, v2, v3]⟩) 0 = some v0 := field_one (cells := [v0, v1, v2, v3]) (f := 0) (off := 0) Try.underlying62 (by rfl) T.r3 rfl
theorem T.f107_1 {b o : Nat} : aFieldAddr Try.prog 62 (.pointer (some ⟨b, o, none⟩)) 1 = some (.pointer (some ⟨b, o + 1, none⟩)) := faddr_own Try.underlying62 (by rfl) T.z72 T.s72 (by decide)
theorem T.fs107_1 {v : Value} {o : Nat} : aFieldAddr Try.prog 62 (.pointer (some (sadr v o))) 1 = some (.pointer (some (sadr v (o + 1)))) := T.f107_1
theorem T.fp107_1 {v0 v1 v2 v3 : Value} : aFieldAddr Try.prog 62 (fpv [v0, v1, v2, v3]) 1 = some (fpv [v1]) := faddr_fz (cells := [v0, v1, v2, v3]) (f := 1) (off := 1) (k := 1) Try.underlying62 (by rfl) T.z72 T.s72 (by decide) (by simp)
theorem T.fd107_1 {v0 v1 v2 v3 : Value} : aField Try.prog 62 (.agg ⟨[v0, v1, v2, v3]⟩) 1 = some v1 := field_one (cells := [v0, v1, v2, v3]) (f := 1) (off := 1) Try.underlying62 (by rfl) T.r72 rfl
theorem T.f107_2 {b o : Nat} : aFieldAddr Try.prog 62 (.pointer (some ⟨b, o, none⟩)) 2 = some (.pointer (some ⟨b, o + 2, none⟩)) := faddr_own Try.underlying62 (by rfl) T.z70 T.s70 (by decide)
theorem T.fs107_2 {v : Value} {o : Nat} : aFieldAddr Try.prog 62 (.pointer (some (sadr v o))) 2 = some (.pointer (some (sadr v (o + 2)))) := T.f107_2
theorem T.fp107_2 {v0 v1 v2 v3 : Value} : aFieldAddr Try.prog 62 (fpv [v0, v1, v2, v3]) 2 = some (fpv [v2]) := faddr_fz (cells := [v0, v1, v2, v3]) (f := 2) (off := 2) (k := 1) Try.underlying62 (by rfl) T.z70 T.s70 (by decide) (by simp)
theorem T.fd107_2 {v0 v1 v2 v3 : Value} : aField Try.prog 62 (.agg ⟨[v0, v1, v2, v3]⟩) 2 = some v2 := field_one (cells := [v0, v1, v2, v3]) (f := 2) (off := 2) Try.underlying62 (by rfl) T.r70 rfl
theorem T.f107_3 {b o : Nat} : aFieldAddr Try.prog 62 (.pointer (some ⟨b, o, none⟩)) 3 = some (.pointer (some ⟨b, o + 3, none⟩)) := faddr_own Try.underlying62 (by rfl) T.z70 T.s70 (by decide)
theorem T.fs107_3 {v : Value} {o : Nat} : aFieldAddr Try.prog 62 (.pointer (some (sadr v o))) 3 = some (.pointer (some (sadr v (o + 3)))) := T.f107_3
theorem T.fp107_3 {v0 v1 v2 v3 : Value} : aFieldAddr Try.prog 62 (fpv [v0, v1, v2, v3]) 3 = some (fpv [v3]) := faddr_fz (cells := [v0, v1, v2, v3]) (f := 3) (off := 3) (k := 1) Try.underlying62 (by rfl) T.z70 T.s70 (by decide) (by simp)
theorem T.fd107_3 {v0 v1 v2 v3 : Value} : aField Try.prog 62 (.agg ⟨[v0, v1, v2, v3]⟩) 3 = some v3 := field_one (cells := [v0, v1, v2, v3]) (f := 3) (off := 3) Try.underlying62 (by rfl) T.r70 rfl
theorem T.l107 {H : Heap} {b off : Nat} : aLoad Try.prog H 62 (.pointer (some ⟨b, off, none⟩)) = (rowsAt (H.get b) off 4).map fun l => .agg ⟨l⟩ := by rw [load_row T.r107 T.z107, T.s107]
theorem T.lp107 {H : Heap} {v0 v1 v2 v3 : Value} : aLoad Try.prog H 62 (fpv [v0, v1, v2, v3]) = some (.agg ⟨[v0, v1, v2, v3]⟩) := load_fz_row T.r107 T.z107 T.s107 rfl
theorem T.w107 {H : Heap} {b off : Nat} {x0 : Int} {x1 : Value} {x2 : Value} {x3 : Value} (hx1 : isSl x1 = true) (hx2 : isSl x2 = true) (hx3 : isSl x3 = true) : aStore Try.prog H 62 (.pointer (some ⟨b, off, none⟩)) (.agg ⟨[.int .i64 x0, x1, x2, x3]⟩) = stRow H b off [.int .i64 x0, x1, x2, x3] (H.get b) := store_row (vs := [.int .i64 x0, x1, x2, x3]) T.z107 T.s107 rfl rfl (by simp only [List.all_cons, List.all_nil, isSl_one hx1, isSl_one hx2, isSl_one hx3, Bool.and_true] <;> rfl)
theorem T.new107 : aNew Try.prog (fun _ => none) (.alloc 62) = some (62, [.int .i64 0, .slice none 0 0, .slice none 0 0, .slice none 0 0], fun b => .pointer (some ⟨b, 0, none⟩)) := by kernel_rfl
theorem T.alloc107 {H : Heap} {e : Env} {K : Value → Heap → Prop} {d : Option Tmp} {ty : TypeId} {ps : String} {af : Array Edge} {gd : Option (Nat × Bool)} : aStep Try.prog e H ⟨d, .alloc 62, ty, ps, af, gd⟩ K = K (.pointer (some ⟨H.next, 0, none⟩)) (H.push (.row true 62 [.int .i64 0, .slice none 0 0, .slice none 0 0, .slice none 0 0])) := s_alloc T.new107
theorem T.f110_0 {b o : Nat} : aFieldAddr Try.prog 65 (.pointer (some ⟨b, o, none⟩)) 0 = some (.pointer (some ⟨b, o + 0, none⟩)) := faddr_own Try.underlying65 (by rfl) T.z3 T.s3 (by decide)
theorem T.fs110_0 {v : Value} {o : Nat} : aFieldAddr Try.prog 65 (.pointer (some (sadr v o))) 0 = some (.pointer (some (sadr v (o + 0)))) := T.f110_0
theorem T.fp110_0 {v0 v1 v2 v3 v4 v5 v6 v7 : Value} : aFieldAddr Try.prog 65 (fpv [v0, v1, v2, v3, v4, v5, v6, v7]) 0 = some (fpv [v0]) := faddr_fz (cells := [v0, v1, v2, v3, v4, v5, v6, v7]) (f := 0) (off := 0) (k := 1) Try.underlying65 (by rfl) T.z3 T.s3 (by decide) (by simp)
theorem T.fd110_0 {v0 v1 v2 v3 v4 v5 v6 v7 : Value} : aField Try.prog 65 (.agg ⟨[v0, v1, v2, v3, v4, v5, v6, v7]⟩) 0 = some v0 := field_one (cells := [v0, v1, v2, v3, v4, v5, v6, v7]) (f := 0) (off := 0) Try.underlying65 (by rfl) T.r3 rfl
theorem T.f110_1 {b o : Nat} : aFieldAddr Try.prog 65 (.pointer (some ⟨b, o, none⟩)) 1 = some (.pointer (some ⟨b, o + 1, none⟩)) := faddr_own Try.underlying65 (by rfl) T.z55 T.s55 (by decide)
theorem T.fs110_1 {v : Value} {o : Nat} : aFieldAddr Try.prog 65 (.pointer (some (sadr v o))) 1 = some (.pointer (some (sadr v (o + 1)))) := T.f110_1
theorem T.fp110_1 {v0 v1 v2 v3 v4 v5 v6 v7 : Value} : aFieldAddr Try.prog 65 (fpv [v0, v1, v2, v3, v4, v5, v6, v7]) 1 = some (fpv [v1, v2, v3, v4]) := faddr_fz (cells := [v0, v1, v2, v3, v4, v5, v6, v7]) (f := 1) (off := 1) (k := 4) Try.underlying65 (by rfl) T.z55 T.s55 (by decide) (by simp)
theorem T.fd110_1 {v0 v1 v2 v3 v4 v5 v6 v7 : Value} : aField Try.prog 65 (.agg ⟨[v0, v1, v2, v3, v4, v5, v6, v7]⟩) 1 = some (.agg ⟨[v1, v2, v3, v4]⟩) := field_row (cells := [v0, v1, v2, v3, v4, v5, v6, v7]) (f := 1) (off := 1) (k := 4) Try.underlying65 (by rfl) T.r55 T.z55 T.s55
theorem T.f110_2 {b o : Nat} : aFieldAddr Try.prog 65 (.pointer (some ⟨b, o, none⟩)) 2 = some (.pointer (some ⟨b, o + 5, none⟩)) := faddr_own Try.underlying65 (by rfl) T.z70 T.s70 (by decide)
theorem T.fs110_2 {v : Value} {o : Nat} : aFieldAddr Try.prog 65 (.pointer (some (sadr v o))) 2 = some (.pointer (some (sadr v (o + 5)))) := T.f110_2
theorem T.fp110_2 {v0 v1 v2 v3 v4 v5 v6 v7 : Value} : aFieldAddr Try.prog 65 (fpv [v0, v1, v2, v3, v4, v5, v6, v7]) 2 = some (fpv [v5]) := faddr_fz (cells := [v0, v1, v2, v3, v4, v5, v6, v7]) (f := 2) (off := 5) (k := 1) Try.underlying65 (by rfl) T.z70 T.s70 (by decide) (by simp)
theorem T.fd110_2 {v0 v1 v2 v3 v4 v5 v6 v7 : Value} : aField Try.prog 65 (.agg ⟨[v0, v1, v2, v3, v4, v5, v6, v7]⟩) 2 = some v5 := field_one (cells := [v0, v1, v2, v3, v4, v5, v6, v7]) (f := 2) (off := 5) Try.underlying65 (by rfl) T.r70 rfl
theorem T.f110_3 {b o : Nat} : aFieldAddr Try.prog 65 (.pointer (some ⟨b, o, none⟩)) 3 = some (.pointer (some ⟨b, o + 6, none⟩)) := faddr_own Try.underlying65 (by rfl) T.z70 T.s70 (by decide)
theorem T.fs110_3 {v : Value} {o : Nat} : aFieldAddr Try.prog 65 (.pointer (some (sadr v o))) 3 = some (.pointer (some (sadr v (o + 6)))) := T.f110_3
theorem T.fp110_3 {v0 v1 v2 v3 v4 v5 v6 v7 : Value} : aFieldAddr Try.prog 65 (fpv [v0, v1, v2, v3, v4, v5, v6, v7]) 3 = some (fpv [v6]) := faddr_fz (cells := [v0, v1, v2, v3, v4, v5, v6, v7]) (f := 3) (off := 6) (k := 1) Try.underlying65 (by rfl) T.z70 T.s70 (by decide) (by simp)
theorem T.fd110_3 {v0 v1 v2 v3 v4 v5 v6 v7 : Value} : aField Try.prog 65 (.agg ⟨[v0, v1, v2, v3, v4, v5, v6, v7]⟩) 3 = some v6 := field_one (cells := [v0, v1, v2, v3, v4, v5, v6, v7]) (f := 3) (off := 6) Try.underlying65 (by rfl) T.r70 rfl
theorem T.f110_4 {b o : Nat} : aFieldAddr Try.prog 65 (.pointer (some ⟨b, o, none⟩)) 4 = some (.pointer (some ⟨b, o + 7, none⟩)) := faddr_own Try.underlying65 (by rfl) T.z70 T.s70 (by decide)
theorem T.fs110_4 {v : Value} {o : Nat} : aFieldAddr Try.prog 65 (.pointer (some (sadr v o))) 4 = some (.pointer (some (sadr v (o + 7)))) := T.f110_4
theorem T.fp110_4 {v0 v1 v2 v3 v4 v5 v6 v7 : Value} : aFieldAddr Try.prog 65 (fpv [v0, v1, v2, v3, v4, v5, v6, v7]) 4 = some (fpv [v7]) := faddr_fz (cells := [v0, v1, v2, v3, v4, v5, v6, v7]) (f := 4) (off := 7) (k := 1) Try.underlying65 (by rfl) T.z70 T.s70 (by decide) (by simp)
theorem T.fd110_4 {v0 v1 v2 v3 v4 v5 v6 v7 : Value} : aField Try.prog 65 (.agg ⟨[v0, v1, v2, v3, v4, v5, v6, v7]⟩) 4 = some v7 := field_one (cells := [v0, v1, v2, v3, v4, v5, v6, v7]) (f := 4) (off := 7) Try.underlying65 (by rfl) T.r70 rfl
theorem T.l110 {H : Heap} {b off : Nat} : aLoad Try.prog H 65 (.pointer (some ⟨b, off, none⟩)) = (rowsAt (H.get b) off 8).map fun l => .agg ⟨l⟩ := by rw [load_row T.r110 T.z110, T.s110]
theorem T.lp110 {H : Heap} {v0 v1 v2 v3 v4 v5 v6 v7 : Value} : aLoad Try.prog H 65 (fpv [v0, v1, v2, v3, v4, v5, v6, v7]) = some (.agg ⟨[v0, v1, v2, v3, v4, v5, v6, v7]⟩) := load_fz_row T.r110 T.z110 T.s110 rfl
theorem T.w110 {H : Heap} {b off : Nat} {x0 : Int} {x100 : Bool} {x101 : Value} {x110 : Bool} {x111 : Value} {x2 : Value} {x3 : Value} {x4 : Value} (hx101 : isSl x101 = true) (hx111 : isSl x111 = true) (hx2 : isSl x2 = true) (hx3 : isSl x3 = true) (hx4 : isSl x4 = true) : aStore Try.prog H 65 (.pointer (some ⟨b, off, none⟩)) (.agg ⟨[.int .i64 x0, .bool x100, x101, .bool x110, x111, x2, x3, x4]⟩) = stRow H b off [.int .i64 x0, .bool x100, x101, .bool x110, x111, x2, x3, x4] (H.get b) := store_row (vs := [.int .i64 x0, .bool x100, x101, .bool x110, x111, x2, x3, x4]) T.z110 T.s110 rfl rfl (by simp only [List.all_cons, List.all_nil, isSl_one hx101, isSl_one hx111, isSl_one hx2, isSl_one hx3, isSl_one hx4, Bool.and_true] <;> rfl)
theorem T.new110 : aNew Try.prog (fun _ => none) (.alloc 65) = some (65, [.int .i64 0, .bool false, .slice none 0 0, .bool false, .slice none 0 0, .slice none 0 0, .slice none 0 0, .slice none 0 0], fun b => .pointer (some ⟨b, 0, none⟩)) := by kernel_rfl
theorem T.alloc110 {H : Heap} {e : Env} {K : Value → Heap → Prop} {d : Option Tmp} {ty : TypeId} {ps : String} {af : Array Edge} {gd : Option (Nat × Bool)} : aStep Try.prog e H ⟨d, .alloc 65, ty, ps, af, gd⟩ K = K (.pointer (some ⟨H.next, 0, none⟩)) (H.push (.row true 65 [.int .i64 0, .bool false, .slice none 0 0, .bool false, .slice none 0 0, .slice none 0 0, .slice none 0 0, .slice none 0 0])) := s_alloc T.new110
theorem T.l114 {H : Heap} {b off : Nat} : aLoad Try.prog H 72 (.pointer (some ⟨b, off, none⟩)) = rowAt (H.get b) off := load_one T.r114
theorem T.lp114 {H : Heap} {v : Value} : aLoad Try.prog H 72 (fpv [v]) = some v := load_fz_one T.r114
theorem T.w114 {H : Heap} {b off : Nat} {x : Value} (hx : isSl x = true) : aStore Try.prog H 72 (.pointer (some ⟨b, off, none⟩)) (x) = stRow H b off [x] (H.get b) := store_row (vs := [x]) T.z114 T.s114 (isSl_cells hx) rfl (by simp only [List.all_cons, List.all_nil, isSl_one hx, Bool.and_true])
theorem T.new114 : aNew Try.prog (fun _ => none) (.alloc 72) = some (72, [.slice none 0 0], fun b => .pointer (some ⟨b, 0, none⟩)) := by kernel_rfl
theorem T.alloc114 {H : Heap} {e : Env} {K : Value → Heap → Prop} {d : Option Tmp} {ty : TypeId} {ps : String} {af : Array Edge} {gd : Option (Nat × Bool)} : aStep Try.prog e H ⟨d, .alloc 72, ty, ps, af, gd⟩ K = K (.pointer (some ⟨H.next, 0, none⟩)) (H.push (.row true 72 [.slice none 0 0])) := s_alloc T.new114
theorem T.l115 {H : Heap} {b off : Nat} : aLoad Try.prog H 73 (.pointer (some ⟨b, off, none⟩)) = rowAt (H.get b) off := load_one T.r115
theorem T.lp115 {H : Heap} {v : Value} : aLoad Try.prog H 73 (fpv [v]) = some v := load_fz_one T.r115
theorem T.w115 {H : Heap} {b off : Nat} {x : Int}  : aStore Try.prog H 73 (.pointer (some ⟨b, off, none⟩)) (.int .i8 x) = stRow H b off [.int .i8 x] (H.get b) := store_row (vs := [.int .i8 x]) T.z115 T.s115 (rfl) rfl (rfl)
theorem T.new115 : aNew Try.prog (fun _ => none) (.alloc 73) = some (73, [.int .i8 0], fun b => .pointer (some ⟨b, 0, none⟩)) := by kernel_rfl
theorem T.alloc115 {H : Heap} {e : Env} {K : Value → Heap → Prop} {d : Option Tmp} {ty : TypeId} {ps : String} {af : Array Edge} {gd : Option (Nat × Bool)} : aStep Try.prog e H ⟨d, .alloc 73, ty, ps, af, gd⟩ K = K (.pointer (some ⟨H.next, 0, none⟩)) (H.push (.row true 73 [.int .i8 0])) := s_alloc T.new115
theorem T.l116 {H : Heap} {b off : Nat} : aLoad Try.prog H 74 (.pointer (some ⟨b, off, none⟩)) = rowAt (H.get b) off := load_one T.r116
theorem T.lp116 {H : Heap} {v : Value} : aLoad Try.prog H 74 (fpv [v]) = some v := load_fz_one T.r116
theorem T.w116 {H : Heap} {b off : Nat} {x : Value} (hx : isSl x = true) : aStore Try.prog H 74 (.pointer (some ⟨b, off, none⟩)) (x) = stRow H b off [x] (H.get b) := store_row (vs := [x]) T.z116 T.s116 (isSl_cells hx) rfl (by simp only [List.all_cons, List.all_nil, isSl_one hx, Bool.and_true])
theorem T.new116 : aNew Try.prog (fun _ => none) (.alloc 74) = some (74, [.slice none 0 0], fun b => .pointer (some ⟨b, 0, none⟩)) := by kernel_rfl
theorem T.alloc116 {H : Heap} {e : Env} {K : Value → Heap → Prop} {d : Option Tmp} {ty : TypeId} {ps : String} {af : Array Edge} {gd : Option (Nat × Bool)} : aStep Try.prog e H ⟨d, .alloc 74, ty, ps, af, gd⟩ K = K (.pointer (some ⟨H.next, 0, none⟩)) (H.push (.row true 74 [.slice none 0 0])) := s_alloc T.new116
theorem T.f121_0 {b o : Nat} : aFieldAddr Try.prog 25 (.pointer (some ⟨b, o, none⟩)) 0 = some (.pointer (some ⟨b, o + 0, none⟩)) := faddr_own Try.underlying25 (by rfl) T.z72 T.s72 (by decide)
theorem T.fs121_0 {v : Value} {o : Nat} : aFieldAddr Try.prog 25 (.pointer (some (sadr v o))) 0 = some (.pointer (some (sadr v (o + 0)))) := T.f121_0
theorem T.fp121_0 {v0 : Value} : aFieldAddr Try.prog 25 (fpv [v0]) 0 = some (fpv [v0]) := faddr_fz (cells := [v0]) (f := 0) (off := 0) (k := 1) Try.underlying25 (by rfl) T.z72 T.s72 (by decide) (by simp)
theorem T.fd121_0 {v0 : Value} : aField Try.prog 25 (.agg ⟨[v0]⟩) 0 = some v0 := field_one (cells := [v0]) (f := 0) (off := 0) Try.underlying25 (by rfl) T.r72 rfl
theorem T.l121 {H : Heap} {b off : Nat} : aLoad Try.prog H 25 (.pointer (some ⟨b, off, none⟩)) = (rowsAt (H.get b) off 1).map fun l => .agg ⟨l⟩ := by rw [load_row T.r121 T.z121, T.s121]
theorem T.lp121 {H : Heap} {v0 : Value} : aLoad Try.prog H 25 (fpv [v0]) = some (.agg ⟨[v0]⟩) := load_fz_row T.r121 T.z121 T.s121 rfl
theorem T.w121 {H : Heap} {b off : Nat} {x0 : Value} (hx0 : isSl x0 = true) : aStore Try.prog H 25 (.pointer (some ⟨b, off, none⟩)) (.agg ⟨[x0]⟩) = stRow H b off [x0] (H.get b) := store_row (vs := [x0]) T.z121 T.s121 rfl rfl (by simp only [List.all_cons, List.all_nil, isSl_one hx0, Bool.and_true] <;> rfl)
theorem T.new121 : aNew Try.prog (fun _ => none) (.alloc 25) = some (25, [.slice none 0 0], fun b => .pointer (some ⟨b, 0, none⟩)) := by kernel_rfl
theorem T.alloc121 {H : Heap} {e : Env} {K : Value → Heap → Prop} {d : Option Tmp} {ty : TypeId} {ps : String} {af : Array Edge} {gd : Option (Nat × Bool)} : aStep Try.prog e H ⟨d, .alloc 25, ty, ps, af, gd⟩ K = K (.pointer (some ⟨H.next, 0, none⟩)) (H.push (.row true 25 [.slice none 0 0])) := s_alloc T.new121
theorem T.l126 {H : Heap} {b off : Nat} : aLoad Try.prog H 30 (.pointer (some ⟨b, off, none⟩)) = rowAt (H.get b) off := load_one T.r126
theorem T.lp126 {H : Heap} {v : Value} : aLoad Try.prog H 30 (fpv [v]) = some v := load_fz_one T.r126
theorem T.w126 {H : Heap} {b off : Nat} {x : Value} (hx : isSl x = true) : aStore Try.prog H 30 (.pointer (some ⟨b, off, none⟩)) (x) = stRow H b off [x] (H.get b) := store_row (vs := [x]) T.z126 T.s126 (isSl_cells hx) rfl (by simp only [List.all_cons, List.all_nil, isSl_one hx, Bool.and_true])
theorem T.new126 : aNew Try.prog (fun _ => none) (.alloc 30) = some (30, [.slice none 0 0], fun b => .pointer (some ⟨b, 0, none⟩)) := by kernel_rfl
theorem T.alloc126 {H : Heap} {e : Env} {K : Value → Heap → Prop} {d : Option Tmp} {ty : TypeId} {ps : String} {af : Array Edge} {gd : Option (Nat × Bool)} : aStep Try.prog e H ⟨d, .alloc 30, ty, ps, af, gd⟩ K = K (.pointer (some ⟨H.next, 0, none⟩)) (H.push (.row true 30 [.slice none 0 0])) := s_alloc T.new126
theorem T.l127 {H : Heap} {b off : Nat} : aLoad Try.prog H 31 (.pointer (some ⟨b, off, none⟩)) = rowAt (H.get b) off := load_one T.r127
theorem T.lp127 {H : Heap} {v : Value} : aLoad Try.prog H 31 (fpv [v]) = some v := load_fz_one T.r127
theorem T.w127 {H : Heap} {b off : Nat} {x : Value} (hx : isSl x = true) : aStore Try.prog H 31 (.pointer (some ⟨b, off, none⟩)) (x) = stRow H b off [x] (H.get b) := store_row (vs := [x]) T.z127 T.s127 (isSl_cells hx) rfl (by simp only [List.all_cons, List.all_nil, isSl_one hx, Bool.and_true])
theorem T.new127 : aNew Try.prog (fun _ => none) (.alloc 31) = some (31, [.slice none 0 0], fun b => .pointer (some ⟨b, 0, none⟩)) := by kernel_rfl
theorem T.alloc127 {H : Heap} {e : Env} {K : Value → Heap → Prop} {d : Option Tmp} {ty : TypeId} {ps : String} {af : Array Edge} {gd : Option (Nat × Bool)} : aStep Try.prog e H ⟨d, .alloc 31, ty, ps, af, gd⟩ K = K (.pointer (some ⟨H.next, 0, none⟩)) (H.push (.row true 31 [.slice none 0 0])) := s_alloc T.new127
theorem T.l128 {H : Heap} {b off : Nat} : aLoad Try.prog H 32 (.pointer (some ⟨b, off, none⟩)) = rowAt (H.get b) off := load_one T.r128
theorem T.lp128 {H : Heap} {v : Value} : aLoad Try.prog H 32 (fpv [v]) = some v := load_fz_one T.r128
theorem T.w128 {H : Heap} {b off : Nat} {x : Value} (hx : isSl x = true) : aStore Try.prog H 32 (.pointer (some ⟨b, off, none⟩)) (x) = stRow H b off [x] (H.get b) := store_row (vs := [x]) T.z128 T.s128 (isSl_cells hx) rfl (by simp only [List.all_cons, List.all_nil, isSl_one hx, Bool.and_true])
theorem T.new128 : aNew Try.prog (fun _ => none) (.alloc 32) = some (32, [.slice none 0 0], fun b => .pointer (some ⟨b, 0, none⟩)) := by kernel_rfl
theorem T.alloc128 {H : Heap} {e : Env} {K : Value → Heap → Prop} {d : Option Tmp} {ty : TypeId} {ps : String} {af : Array Edge} {gd : Option (Nat × Bool)} : aStep Try.prog e H ⟨d, .alloc 32, ty, ps, af, gd⟩ K = K (.pointer (some ⟨H.next, 0, none⟩)) (H.push (.row true 32 [.slice none 0 0])) := s_alloc T.new128
theorem T.l129 {H : Heap} {b off : Nat} : aLoad Try.prog H 33 (.pointer (some ⟨b, off, none⟩)) = rowAt (H.get b) off := load_one T.r129
theorem T.lp129 {H : Heap} {v : Value} : aLoad Try.prog H 33 (fpv [v]) = some v := load_fz_one T.r129
theorem T.w129 {H : Heap} {b off : Nat} {x : Value} (hx : isSl x = true) : aStore Try.prog H 33 (.pointer (some ⟨b, off, none⟩)) (x) = stRow H b off [x] (H.get b) := store_row (vs := [x]) T.z129 T.s129 (isSl_cells hx) rfl (by simp only [List.all_cons, List.all_nil, isSl_one hx, Bool.and_true])
theorem T.new129 : aNew Try.prog (fun _ => none) (.alloc 33) = some (33, [.slice none 0 0], fun b => .pointer (some ⟨b, 0, none⟩)) := by kernel_rfl
theorem T.alloc129 {H : Heap} {e : Env} {K : Value → Heap → Prop} {d : Option Tmp} {ty : TypeId} {ps : String} {af : Array Edge} {gd : Option (Nat × Bool)} : aStep Try.prog e H ⟨d, .alloc 33, ty, ps, af, gd⟩ K = K (.pointer (some ⟨H.next, 0, none⟩)) (H.push (.row true 33 [.slice none 0 0])) := s_alloc T.new129
theorem T.f131_0 {b o : Nat} : aFieldAddr Try.prog 35 (.pointer (some ⟨b, o, none⟩)) 0 = some (.pointer (some ⟨b, o + 0, none⟩)) := faddr_own Try.underlying35 (by rfl) T.z126 T.s126 (by decide)
theorem T.fs131_0 {v : Value} {o : Nat} : aFieldAddr Try.prog 35 (.pointer (some (sadr v o))) 0 = some (.pointer (some (sadr v (o + 0)))) := T.f131_0
theorem T.fp131_0 {v0 v1 v2 v3 : Value} : aFieldAddr Try.prog 35 (fpv [v0, v1, v2, v3]) 0 = some (fpv [v0]) := faddr_fz (cells := [v0, v1, v2, v3]) (f := 0) (off := 0) (k := 1) Try.underlying35 (by rfl) T.z126 T.s126 (by decide) (by simp)
theorem T.fd131_0 {v0 v1 v2 v3 : Value} : aField Try.prog 35 (.agg ⟨[v0, v1, v2, v3]⟩) 0 = some v0 := field_one (cells := [v0, v1, v2, v3]) (f := 0) (off := 0) Try.underlying35 (by rfl) T.r126 rfl
theorem T.f131_1 {b o : Nat} : aFieldAddr Try.prog 35 (.pointer (some ⟨b, o, none⟩)) 1 = some (.pointer (some ⟨b, o + 1, none⟩)) := faddr_own Try.underlying35 (by rfl) T.z127 T.s127 (by decide)
theorem T.fs131_1 {v : Value} {o : Nat} : aFieldAddr Try.prog 35 (.pointer (some (sadr v o))) 1 = some (.pointer (some (sadr v (o + 1)))) := T.f131_1
theorem T.fp131_1 {v0 v1 v2 v3 : Value} : aFieldAddr Try.prog 35 (fpv [v0, v1, v2, v3]) 1 = some (fpv [v1]) := faddr_fz (cells := [v0, v1, v2, v3]) (f := 1) (off := 1) (k := 1) Try.underlying35 (by rfl) T.z127 T.s127 (by decide) (by simp)
theorem T.fd131_1 {v0 v1 v2 v3 : Value} : aField Try.prog 35 (.agg ⟨[v0, v1, v2, v3]⟩) 1 = some v1 := field_one (cells := [v0, v1, v2, v3]) (f := 1) (off := 1) Try.underlying35 (by rfl) T.r127 rfl
theorem T.f131_2 {b o : Nat} : aFieldAddr Try.prog 35 (.pointer (some ⟨b, o, none⟩)) 2 = some (.pointer (some ⟨b, o + 2, none⟩)) := faddr_own Try.underlying35 (by rfl) T.z128 T.s128 (by decide)
theorem T.fs131_2 {v : Value} {o : Nat} : aFieldAddr Try.prog 35 (.pointer (some (sadr v o))) 2 = some (.pointer (some (sadr v (o + 2)))) := T.f131_2
theorem T.fp131_2 {v0 v1 v2 v3 : Value} : aFieldAddr Try.prog 35 (fpv [v0, v1, v2, v3]) 2 = some (fpv [v2]) := faddr_fz (cells := [v0, v1, v2, v3]) (f := 2) (off := 2) (k := 1) Try.underlying35 (by rfl) T.z128 T.s128 (by decide) (by simp)
theorem T.fd131_2 {v0 v1 v2 v3 : Value} : aField Try.prog 35 (.agg ⟨[v0, v1, v2, v3]⟩) 2 = some v2 := field_one (cells := [v0, v1, v2, v3]) (f := 2) (off := 2) Try.underlying35 (by rfl) T.r128 rfl
theorem T.f131_3 {b o : Nat} : aFieldAddr Try.prog 35 (.pointer (some ⟨b, o, none⟩)) 3 = some (.pointer (some ⟨b, o + 3, none⟩)) := faddr_own Try.underlying35 (by rfl) T.z129 T.s129 (by decide)
theorem T.fs131_3 {v : Value} {o : Nat} : aFieldAddr Try.prog 35 (.pointer (some (sadr v o))) 3 = some (.pointer (some (sadr v (o + 3)))) := T.f131_3
theorem T.fp131_3 {v0 v1 v2 v3 : Value} : aFieldAddr Try.prog 35 (fpv [v0, v1, v2, v3]) 3 = some (fpv [v3]) := faddr_fz (cells := [v0, v1, v2, v3]) (f := 3) (off := 3) (k := 1) Try.underlying35 (by rfl) T.z129 T.s129 (by decide) (by simp)
theorem T.fd131_3 {v0 v1 v2 v3 : Value} : aField Try.prog 35 (.agg ⟨[v0, v1, v2, v3]⟩) 3 = some v3 := field_one (cells := [v0, v1, v2, v3]) (f := 3) (off := 3) Try.underlying35 (by rfl) T.r129 rfl
theorem T.l131 {H : Heap} {b off : Nat} : aLoad Try.prog H 35 (.pointer (some ⟨b, off, none⟩)) = (rowsAt (H.get b) off 4).map fun l => .agg ⟨l⟩ := by rw [load_row T.r131 T.z131, T.s131]
theorem T.lp131 {H : Heap} {v0 v1 v2 v3 : Value} : aLoad Try.prog H 35 (fpv [v0, v1, v2, v3]) = some (.agg ⟨[v0, v1, v2, v3]⟩) := load_fz_row T.r131 T.z131 T.s131 rfl
theorem T.w131 {H : Heap} {b off : Nat} {x0 : Value} {x1 : Value} {x2 : Value} {x3 : Value} (hx0 : isSl x0 = true) (hx1 : isSl x1 = true) (hx2 : isSl x2 = true) (hx3 : isSl x3 = true) : aStore Try.prog H 35 (.pointer (some ⟨b, off, none⟩)) (.agg ⟨[x0, x1, x2, x3]⟩) = stRow H b off [x0, x1, x2, x3] (H.get b) := store_row (vs := [x0, x1, x2, x3]) T.z131 T.s131 rfl rfl (by simp only [List.all_cons, List.all_nil, isSl_one hx0, isSl_one hx1, isSl_one hx2, isSl_one hx3, Bool.and_true] <;> rfl)
theorem T.new131 : aNew Try.prog (fun _ => none) (.alloc 35) = some (35, [.slice none 0 0, .slice none 0 0, .slice none 0 0, .slice none 0 0], fun b => .pointer (some ⟨b, 0, none⟩)) := by kernel_rfl
theorem T.alloc131 {H : Heap} {e : Env} {K : Value → Heap → Prop} {d : Option Tmp} {ty : TypeId} {ps : String} {af : Array Edge} {gd : Option (Nat × Bool)} : aStep Try.prog e H ⟨d, .alloc 35, ty, ps, af, gd⟩ K = K (.pointer (some ⟨H.next, 0, none⟩)) (H.push (.row true 35 [.slice none 0 0, .slice none 0 0, .slice none 0 0, .slice none 0 0])) := s_alloc T.new131
theorem T.l142 {H : Heap} {b off : Nat} : aLoad Try.prog H 86 (.pointer (some ⟨b, off, none⟩)) = rowAt (H.get b) off := load_one T.r142
theorem T.lp142 {H : Heap} {v : Value} : aLoad Try.prog H 86 (fpv [v]) = some v := load_fz_one T.r142
theorem T.w142 {H : Heap} {b off : Nat} {x : Value} (hx : isSl x = true) : aStore Try.prog H 86 (.pointer (some ⟨b, off, none⟩)) (x) = stRow H b off [x] (H.get b) := store_row (vs := [x]) T.z142 T.s142 (isSl_cells hx) rfl (by simp only [List.all_cons, List.all_nil, isSl_one hx, Bool.and_true])
theorem T.new142 : aNew Try.prog (fun _ => none) (.alloc 86) = some (86, [.slice none 0 0], fun b => .pointer (some ⟨b, 0, none⟩)) := by kernel_rfl
theorem T.alloc142 {H : Heap} {e : Env} {K : Value → Heap → Prop} {d : Option Tmp} {ty : TypeId} {ps : String} {af : Array Edge} {gd : Option (Nat × Bool)} : aStep Try.prog e H ⟨d, .alloc 86, ty, ps, af, gd⟩ K = K (.pointer (some ⟨H.next, 0, none⟩)) (H.push (.row true 86 [.slice none 0 0])) := s_alloc T.new142
theorem T.l143 {H : Heap} {b off : Nat} : aLoad Try.prog H 87 (.pointer (some ⟨b, off, none⟩)) = rowAt (H.get b) off := load_one T.r143
theorem T.lp143 {H : Heap} {v : Value} : aLoad Try.prog H 87 (fpv [v]) = some v := load_fz_one T.r143
theorem T.w143 {H : Heap} {b off : Nat} {x : Value} (hx : isSl x = true) : aStore Try.prog H 87 (.pointer (some ⟨b, off, none⟩)) (x) = stRow H b off [x] (H.get b) := store_row (vs := [x]) T.z143 T.s143 (isSl_cells hx) rfl (by simp only [List.all_cons, List.all_nil, isSl_one hx, Bool.and_true])
theorem T.new143 : aNew Try.prog (fun _ => none) (.alloc 87) = some (87, [.slice none 0 0], fun b => .pointer (some ⟨b, 0, none⟩)) := by kernel_rfl
theorem T.alloc143 {H : Heap} {e : Env} {K : Value → Heap → Prop} {d : Option Tmp} {ty : TypeId} {ps : String} {af : Array Edge} {gd : Option (Nat × Bool)} : aStep Try.prog e H ⟨d, .alloc 87, ty, ps, af, gd⟩ K = K (.pointer (some ⟨H.next, 0, none⟩)) (H.push (.row true 87 [.slice none 0 0])) := s_alloc T.new143
theorem T.f145_0 {b o : Nat} : aFieldAddr Try.prog 89 (.pointer (some ⟨b, o, none⟩)) 0 = some (.pointer (some ⟨b, o + 0, none⟩)) := faddr_own Try.underlying89 (by rfl) T.z3 T.s3 (by decide)
theorem T.fs145_0 {v : Value} {o : Nat} : aFieldAddr Try.prog 89 (.pointer (some (sadr v o))) 0 = some (.pointer (some (sadr v (o + 0)))) := T.f145_0
theorem T.fp145_0 {v0 v1 v2 v3 v4 v5 : Value} : aFieldAddr Try.prog 89 (fpv [v0, v1, v2, v3, v4, v5]) 0 = some (fpv [v0]) := faddr_fz (cells := [v0, v1, v2, v3, v4, v5]) (f := 0) (off := 0) (k := 1) Try.underlying89 (by rfl) T.z3 T.s3 (by decide) (by simp)
theorem T.fd145_0 {v0 v1 v2 v3 v4 v5 : Value} : aField Try.prog 89 (.agg ⟨[v0, v1, v2, v3, v4, v5]⟩) 0 = some v0 := field_one (cells := [v0, v1, v2, v3, v4, v5]) (f := 0) (off := 0) Try.underlying89 (by rfl) T.r3 rfl
theorem T.f145_1 {b o : Nat} : aFieldAddr Try.prog 89 (.pointer (some ⟨b, o, none⟩)) 1 = some (.pointer (some ⟨b, o + 1, none⟩)) := faddr_own Try.underlying89 (by rfl) T.z3 T.s3 (by decide)
theorem T.fs145_1 {v : Value} {o : Nat} : aFieldAddr Try.prog 89 (.pointer (some (sadr v o))) 1 = some (.pointer (some (sadr v (o + 1)))) := T.f145_1
theorem T.fp145_1 {v0 v1 v2 v3 v4 v5 : Value} : aFieldAddr Try.prog 89 (fpv [v0, v1, v2, v3, v4, v5]) 1 = some (fpv [v1]) := faddr_fz (cells := [v0, v1, v2, v3, v4, v5]) (f := 1) (off := 1) (k := 1) Try.underlying89 (by rfl) T.z3 T.s3 (by decide) (by simp)
theorem T.fd145_1 {v0 v1 v2 v3 v4 v5 : Value} : aField Try.prog 89 (.agg ⟨[v0, v1, v2, v3, v4, v5]⟩) 1 = some v1 := field_one (cells := [v0, v1, v2, v3, v4, v5]) (f := 1) (off := 1) Try.underlying89 (by rfl) T.r3 rfl
theorem T.f145_2 {b o : Nat} : aFieldAddr Try.prog 89 (.pointer (some ⟨b, o, none⟩)) 2 = some (.pointer (some ⟨b, o + 2, none⟩)) := faddr_own Try.underlying89 (by rfl) T.z3 T.s3 (by decide)
theorem T.fs145_2 {v : Value} {o : Nat} : aFieldAddr Try.prog 89 (.pointer (some (sadr v o))) 2 = some (.pointer (some (sadr v (o + 2)))) := T.f145_2
theorem T.fp145_2 {v0 v1 v2 v3 v4 v5 : Value} : aFieldAddr Try.prog 89 (fpv [v0, v1, v2, v3, v4, v5]) 2 = some (fpv [v2]) := faddr_fz (cells := [v0, v1, v2, v3, v4, v5]) (f := 2) (off := 2) (k := 1) Try.underlying89 (by rfl) T.z3 T.s3 (by decide) (by simp)
theorem T.fd145_2 {v0 v1 v2 v3 v4 v5 : Value} : aField Try.prog 89 (.agg ⟨[v0, v1, v2, v3, v4, v5]⟩) 2 = some v2 := field_one (cells := [v0, v1, v2, v3, v4, v5]) (f := 2) (off := 2) Try.underlying89 (by rfl) T.r3 rfl
theorem T.f145_3 {b o : Nat} : aFieldAddr Try.prog 89 (.pointer (some ⟨b, o, none⟩)) 3 = some (.pointer (some ⟨b, o + 3, none⟩)) := faddr_own Try.underlying89 (by rfl) T.z142 T.s142 (by decide)
theorem T.fs145_3 {v : Value} {o : Nat} : aFieldAddr Try.prog 89 (.pointer (some (sadr v o))) 3 = some (.pointer (some (sadr v (o + 3)))) := T.f145_3
theorem T.fp145_3 {v0 v1 v2 v3 v4 v5 : Value} : aFieldAddr Try.prog 89 (fpv [v0, v1, v2, v3, v4, v5]) 3 = some (fpv [v3]) := faddr_fz (cells := [v0, v1, v2, v3, v4, v5]) (f := 3) (off := 3) (k := 1) Try.underlying89 (by rfl) T.z142 T.s142 (by decide) (by simp)
theorem T.fd145_3 {v0 v1 v2 v3 v4 v5 : Value} : aField Try.prog 89 (.agg ⟨[v0, v1, v2, v3, v4, v5]⟩) 3 = some v3 := field_one (cells := [v0, v1, v2, v3, v4, v5]) (f := 3) (off := 3) Try.underlying89 (by rfl) T.r142 rfl
theorem T.f145_4 {b o : Nat} : aFieldAddr Try.prog 89 (.pointer (some ⟨b, o, none⟩)) 4 = some (.pointer (some ⟨b, o + 4, none⟩)) := faddr_own Try.underlying89 (by rfl) T.z142 T.s142 (by decide)
theorem T.fs145_4 {v : Value} {o : Nat} : aFieldAddr Try.prog 89 (.pointer (some (sadr v o))) 4 = some (.pointer (some (sadr v (o + 4)))) := T.f145_4
theorem T.fp145_4 {v0 v1 v2 v3 v4 v5 : Value} : aFieldAddr Try.prog 89 (fpv [v0, v1, v2, v3, v4, v5]) 4 = some (fpv [v4]) := faddr_fz (cells := [v0, v1, v2, v3, v4, v5]) (f := 4) (off := 4) (k := 1) Try.underlying89 (by rfl) T.z142 T.s142 (by decide) (by simp)
theorem T.fd145_4 {v0 v1 v2 v3 v4 v5 : Value} : aField Try.prog 89 (.agg ⟨[v0, v1, v2, v3, v4, v5]⟩) 4 = some v4 := field_one (cells := [v0, v1, v2, v3, v4, v5]) (f := 4) (off := 4) Try.underlying89 (by rfl) T.r142 rfl
theorem T.f145_5 {b o : Nat} : aFieldAddr Try.prog 89 (.pointer (some ⟨b, o, none⟩)) 5 = some (.pointer (some ⟨b, o + 5, none⟩)) := faddr_own Try.underlying89 (by rfl) T.z143 T.s143 (by decide)
theorem T.fs145_5 {v : Value} {o : Nat} : aFieldAddr Try.prog 89 (.pointer (some (sadr v o))) 5 = some (.pointer (some (sadr v (o + 5)))) := T.f145_5
theorem T.fp145_5 {v0 v1 v2 v3 v4 v5 : Value} : aFieldAddr Try.prog 89 (fpv [v0, v1, v2, v3, v4, v5]) 5 = some (fpv [v5]) := faddr_fz (cells := [v0, v1, v2, v3, v4, v5]) (f := 5) (off := 5) (k := 1) Try.underlying89 (by rfl) T.z143 T.s143 (by decide) (by simp)
theorem T.fd145_5 {v0 v1 v2 v3 v4 v5 : Value} : aField Try.prog 89 (.agg ⟨[v0, v1, v2, v3, v4, v5]⟩) 5 = some v5 := field_one (cells := [v0, v1, v2, v3, v4, v5]) (f := 5) (off := 5) Try.underlying89 (by rfl) T.r143 rfl
theorem T.l145 {H : Heap} {b off : Nat} : aLoad Try.prog H 89 (.pointer (some ⟨b, off, none⟩)) = (rowsAt (H.get b) off 6).map fun l => .agg ⟨l⟩ := by rw [load_row T.r145 T.z145, T.s145]
theorem T.lp145 {H : Heap} {v0 v1 v2 v3 v4 v5 : Value} : aLoad Try.prog H 89 (fpv [v0, v1, v2, v3, v4, v5]) = some (.agg ⟨[v0, v1, v2, v3, v4, v5]⟩) := load_fz_row T.r145 T.z145 T.s145 rfl
theorem T.w145 {H : Heap} {b off : Nat} {x0 : Int} {x1 : Int} {x2 : Int} {x3 : Value} {x4 : Value} {x5 : Value} (hx3 : isSl x3 = true) (hx4 : isSl x4 = true) (hx5 : isSl x5 = true) : aStore Try.prog H 89 (.pointer (some ⟨b, off, none⟩)) (.agg ⟨[.int .i64 x0, .int .i64 x1, .int .i64 x2, x3, x4, x5]⟩) = stRow H b off [.int .i64 x0, .int .i64 x1, .int .i64 x2, x3, x4, x5] (H.get b) := store_row (vs := [.int .i64 x0, .int .i64 x1, .int .i64 x2, x3, x4, x5]) T.z145 T.s145 rfl rfl (by simp only [List.all_cons, List.all_nil, isSl_one hx3, isSl_one hx4, isSl_one hx5, Bool.and_true] <;> rfl)
theorem T.new145 : aNew Try.prog (fun _ => none) (.alloc 89) = some (89, [.int .i64 0, .int .i64 0, .int .i64 0, .slice none 0 0, .slice none 0 0, .slice none 0 0], fun b => .pointer (some ⟨b, 0, none⟩)) := by kernel_rfl
theorem T.alloc145 {H : Heap} {e : Env} {K : Value → Heap → Prop} {d : Option Tmp} {ty : TypeId} {ps : String} {af : Array Edge} {gd : Option (Nat × Bool)} : aStep Try.prog e H ⟨d, .alloc 89, ty, ps, af, gd⟩ K = K (.pointer (some ⟨H.next, 0, none⟩)) (H.push (.row true 89 [.int .i64 0, .int .i64 0, .int .i64 0, .slice none 0 0, .slice none 0 0, .slice none 0 0])) := s_alloc T.new145
theorem T.l147 {H : Heap} {b off : Nat} : aLoad Try.prog H 97 (.pointer (some ⟨b, off, none⟩)) = rowAt (H.get b) off := load_one T.r147
theorem T.lp147 {H : Heap} {v : Value} : aLoad Try.prog H 97 (fpv [v]) = some v := load_fz_one T.r147
theorem T.w147 {H : Heap} {b off : Nat} {x : Value} (hx : isSl x = true) : aStore Try.prog H 97 (.pointer (some ⟨b, off, none⟩)) (x) = stRow H b off [x] (H.get b) := store_row (vs := [x]) T.z147 T.s147 (isSl_cells hx) rfl (by simp only [List.all_cons, List.all_nil, isSl_one hx, Bool.and_true])
theorem T.new147 : aNew Try.prog (fun _ => none) (.alloc 97) = some (97, [.slice none 0 0], fun b => .pointer (some ⟨b, 0, none⟩)) := by kernel_rfl
theorem T.alloc147 {H : Heap} {e : Env} {K : Value → Heap → Prop} {d : Option Tmp} {ty : TypeId} {ps : String} {af : Array Edge} {gd : Option (Nat × Bool)} : aStep Try.prog e H ⟨d, .alloc 97, ty, ps, af, gd⟩ K = K (.pointer (some ⟨H.next, 0, none⟩)) (H.push (.row true 97 [.slice none 0 0])) := s_alloc T.new147
theorem T.l155 {H : Heap} {b off : Nat} : aLoad Try.prog H 102 (.pointer (some ⟨b, off, none⟩)) = rowAt (H.get b) off := load_one T.r155
theorem T.lp155 {H : Heap} {v : Value} : aLoad Try.prog H 102 (fpv [v]) = some v := load_fz_one T.r155
theorem T.w155 {H : Heap} {b off : Nat} {x : Int}  : aStore Try.prog H 102 (.pointer (some ⟨b, off, none⟩)) (.int .u64 x) = stRow H b off [.int .u64 x] (H.get b) := store_row (vs := [.int .u64 x]) T.z155 T.s155 (rfl) rfl (rfl)
theorem T.new155 : aNew Try.prog (fun _ => none) (.alloc 102) = some (102, [.int .u64 0], fun b => .pointer (some ⟨b, 0, none⟩)) := by kernel_rfl
theorem T.alloc155 {H : Heap} {e : Env} {K : Value → Heap → Prop} {d : Option Tmp} {ty : TypeId} {ps : String} {af : Array Edge} {gd : Option (Nat × Bool)} : aStep Try.prog e H ⟨d, .alloc 102, ty, ps, af, gd⟩ K = K (.pointer (some ⟨H.next, 0, none⟩)) (H.push (.row true 102 [.int .u64 0])) := s_alloc T.new155
theorem T.l156 {H : Heap} {b off : Nat} : aLoad Try.prog H 104 (.pointer (some ⟨b, off, none⟩)) = rowAt (H.get b) off := load_one T.r156
theorem T.lp156 {H : Heap} {v : Value} : aLoad Try.prog H 104 (fpv [v]) = some v := load_fz_one T.r156
theorem T.w156 {H : Heap} {b off : Nat} {x : Int}  : aStore Try.prog H 104 (.pointer (some ⟨b, off, none⟩)) (.int .u64 x) = stRow H b off [.int .u64 x] (H.get b) := store_row (vs := [.int .u64 x]) T.z156 T.s156 (rfl) rfl (rfl)
theorem T.new156 : aNew Try.prog (fun _ => none) (.alloc 104) = some (104, [.int .u64 0], fun b => .pointer (some ⟨b, 0, none⟩)) := by kernel_rfl
theorem T.alloc156 {H : Heap} {e : Env} {K : Value → Heap → Prop} {d : Option Tmp} {ty : TypeId} {ps : String} {af : Array Edge} {gd : Option (Nat × Bool)} : aStep Try.prog e H ⟨d, .alloc 104, ty, ps, af, gd⟩ K = K (.pointer (some ⟨H.next, 0, none⟩)) (H.push (.row true 104 [.int .u64 0])) := s_alloc T.new156
theorem T.f190_0 {b o : Nat} : aFieldAddr Try.prog 92 (.pointer (some ⟨b, o, none⟩)) 0 = some (.pointer (some ⟨b, o + 0, none⟩)) := faddr_own Try.underlying92 (by rfl) T.z3 T.s3 (by decide)
theorem T.fs190_0 {v : Value} {o : Nat} : aFieldAddr Try.prog 92 (.pointer (some (sadr v o))) 0 = some (.pointer (some (sadr v (o + 0)))) := T.f190_0
theorem T.fp190_0 {v0 v1 v2 v3 : Value} : aFieldAddr Try.prog 92 (fpv [v0, v1, v2, v3]) 0 = some (fpv [v0]) := faddr_fz (cells := [v0, v1, v2, v3]) (f := 0) (off := 0) (k := 1) Try.underlying92 (by rfl) T.z3 T.s3 (by decide) (by simp)
theorem T.fd190_0 {v0 v1 v2 v3 : Value} : aField Try.prog 92 (.agg ⟨[v0, v1, v2, v3]⟩) 0 = some v0 := field_one (cells := [v0, v1, v2, v3]) (f := 0) (off := 0) Try.underlying92 (by rfl) T.r3 rfl
theorem T.f190_1 {b o : Nat} : aFieldAddr Try.prog 92 (.pointer (some ⟨b, o, none⟩)) 1 = some (.pointer (some ⟨b, o + 1, none⟩)) := faddr_own Try.underlying92 (by rfl) T.z3 T.s3 (by decide)
theorem T.fs190_1 {v : Value} {o : Nat} : aFieldAddr Try.prog 92 (.pointer (some (sadr v o))) 1 = some (.pointer (some (sadr v (o + 1)))) := T.f190_1
theorem T.fp190_1 {v0 v1 v2 v3 : Value} : aFieldAddr Try.prog 92 (fpv [v0, v1, v2, v3]) 1 = some (fpv [v1]) := faddr_fz (cells := [v0, v1, v2, v3]) (f := 1) (off := 1) (k := 1) Try.underlying92 (by rfl) T.z3 T.s3 (by decide) (by simp)
theorem T.fd190_1 {v0 v1 v2 v3 : Value} : aField Try.prog 92 (.agg ⟨[v0, v1, v2, v3]⟩) 1 = some v1 := field_one (cells := [v0, v1, v2, v3]) (f := 1) (off := 1) Try.underlying92 (by rfl) T.r3 rfl
theorem T.f190_2 {b o : Nat} : aFieldAddr Try.prog 92 (.pointer (some ⟨b, o, none⟩)) 2 = some (.pointer (some ⟨b, o + 2, none⟩)) := faddr_own Try.underlying92 (by rfl) T.z3 T.s3 (by decide)
theorem T.fs190_2 {v : Value} {o : Nat} : aFieldAddr Try.prog 92 (.pointer (some (sadr v o))) 2 = some (.pointer (some (sadr v (o + 2)))) := T.f190_2
theorem T.fp190_2 {v0 v1 v2 v3 : Value} : aFieldAddr Try.prog 92 (fpv [v0, v1, v2, v3]) 2 = some (fpv [v2]) := faddr_fz (cells := [v0, v1, v2, v3]) (f := 2) (off := 2) (k := 1) Try.underlying92 (by rfl) T.z3 T.s3 (by decide) (by simp)
theorem T.fd190_2 {v0 v1 v2 v3 : Value} : aField Try.prog 92 (.agg ⟨[v0, v1, v2, v3]⟩) 2 = some v2 := field_one (cells := [v0, v1, v2, v3]) (f := 2) (off := 2) Try.underlying92 (by rfl) T.r3 rfl
theorem T.f190_3 {b o : Nat} : aFieldAddr Try.prog 92 (.pointer (some ⟨b, o, none⟩)) 3 = some (.pointer (some ⟨b, o + 3, none⟩)) := faddr_own Try.underlying92 (by rfl) T.z142 T.s142 (by decide)
theorem T.fs190_3 {v : Value} {o : Nat} : aFieldAddr Try.prog 92 (.pointer (some (sadr v o))) 3 = some (.pointer (some (sadr v (o + 3)))) := T.f190_3
theorem T.fp190_3 {v0 v1 v2 v3 : Value} : aFieldAddr Try.prog 92 (fpv [v0, v1, v2, v3]) 3 = some (fpv [v3]) := faddr_fz (cells := [v0, v1, v2, v3]) (f := 3) (off := 3) (k := 1) Try.underlying92 (by rfl) T.z142 T.s142 (by decide) (by simp)
theorem T.fd190_3 {v0 v1 v2 v3 : Value} : aField Try.prog 92 (.agg ⟨[v0, v1, v2, v3]⟩) 3 = some v3 := field_one (cells := [v0, v1, v2, v3]) (f := 3) (off := 3) Try.underlying92 (by rfl) T.r142 rfl
theorem T.l190 {H : Heap} {b off : Nat} : aLoad Try.prog H 92 (.pointer (some ⟨b, off, none⟩)) = (rowsAt (H.get b) off 4).map fun l => .agg ⟨l⟩ := by rw [load_row T.r190 T.z190, T.s190]
theorem T.lp190 {H : Heap} {v0 v1 v2 v3 : Value} : aLoad Try.prog H 92 (fpv [v0, v1, v2, v3]) = some (.agg ⟨[v0, v1, v2, v3]⟩) := load_fz_row T.r190 T.z190 T.s190 rfl
theorem T.w190 {H : Heap} {b off : Nat} {x0 : Int} {x1 : Int} {x2 : Int} {x3 : Value} (hx3 : isSl x3 = true) : aStore Try.prog H 92 (.pointer (some ⟨b, off, none⟩)) (.agg ⟨[.int .i64 x0, .int .i64 x1, .int .i64 x2, x3]⟩) = stRow H b off [.int .i64 x0, .int .i64 x1, .int .i64 x2, x3] (H.get b) := store_row (vs := [.int .i64 x0, .int .i64 x1, .int .i64 x2, x3]) T.z190 T.s190 rfl rfl (by simp only [List.all_cons, List.all_nil, isSl_one hx3, Bool.and_true] <;> rfl)
theorem T.new190 : aNew Try.prog (fun _ => none) (.alloc 92) = some (92, [.int .i64 0, .int .i64 0, .int .i64 0, .slice none 0 0], fun b => .pointer (some ⟨b, 0, none⟩)) := by kernel_rfl
theorem T.alloc190 {H : Heap} {e : Env} {K : Value → Heap → Prop} {d : Option Tmp} {ty : TypeId} {ps : String} {af : Array Edge} {gd : Option (Nat × Bool)} : aStep Try.prog e H ⟨d, .alloc 92, ty, ps, af, gd⟩ K = K (.pointer (some ⟨H.next, 0, none⟩)) (H.push (.row true 92 [.int .i64 0, .int .i64 0, .int .i64 0, .slice none 0 0])) := s_alloc T.new190
theorem T.l191 {H : Heap} {b off : Nat} : aLoad Try.prog H 93 (.pointer (some ⟨b, off, none⟩)) = rowAt (H.get b) off := load_one T.r191
theorem T.lp191 {H : Heap} {v : Value} : aLoad Try.prog H 93 (fpv [v]) = some v := load_fz_one T.r191
theorem T.w191 {H : Heap} {b off : Nat} {x : Value} (hx : isSl x = true) : aStore Try.prog H 93 (.pointer (some ⟨b, off, none⟩)) (x) = stRow H b off [x] (H.get b) := store_row (vs := [x]) T.z191 T.s191 (isSl_cells hx) rfl (by simp only [List.all_cons, List.all_nil, isSl_one hx, Bool.and_true])
theorem T.new191 : aNew Try.prog (fun _ => none) (.alloc 93) = some (93, [.slice none 0 0], fun b => .pointer (some ⟨b, 0, none⟩)) := by kernel_rfl
theorem T.alloc191 {H : Heap} {e : Env} {K : Value → Heap → Prop} {d : Option Tmp} {ty : TypeId} {ps : String} {af : Array Edge} {gd : Option (Nat × Bool)} : aStep Try.prog e H ⟨d, .alloc 93, ty, ps, af, gd⟩ K = K (.pointer (some ⟨H.next, 0, none⟩)) (H.push (.row true 93 [.slice none 0 0])) := s_alloc T.new191
theorem T.f193_0 {b o : Nat} : aFieldAddr Try.prog 95 (.pointer (some ⟨b, o, none⟩)) 0 = some (.pointer (some ⟨b, o + 0, none⟩)) := faddr_own Try.underlying95 (by rfl) T.z191 T.s191 (by decide)
theorem T.fs193_0 {v : Value} {o : Nat} : aFieldAddr Try.prog 95 (.pointer (some (sadr v o))) 0 = some (.pointer (some (sadr v (o + 0)))) := T.f193_0
theorem T.fp193_0 {v0 v1 : Value} : aFieldAddr Try.prog 95 (fpv [v0, v1]) 0 = some (fpv [v0]) := faddr_fz (cells := [v0, v1]) (f := 0) (off := 0) (k := 1) Try.underlying95 (by rfl) T.z191 T.s191 (by decide) (by simp)
theorem T.fd193_0 {v0 v1 : Value} : aField Try.prog 95 (.agg ⟨[v0, v1]⟩) 0 = some v0 := field_one (cells := [v0, v1]) (f := 0) (off := 0) Try.underlying95 (by rfl) T.r191 rfl
theorem T.f193_1 {b o : Nat} : aFieldAddr Try.prog 95 (.pointer (some ⟨b, o, none⟩)) 1 = some (.pointer (some ⟨b, o + 1, none⟩)) := faddr_own Try.underlying95 (by rfl) T.z3 T.s3 (by decide)
theorem T.fs193_1 {v : Value} {o : Nat} : aFieldAddr Try.prog 95 (.pointer (some (sadr v o))) 1 = some (.pointer (some (sadr v (o + 1)))) := T.f193_1
theorem T.fp193_1 {v0 v1 : Value} : aFieldAddr Try.prog 95 (fpv [v0, v1]) 1 = some (fpv [v1]) := faddr_fz (cells := [v0, v1]) (f := 1) (off := 1) (k := 1) Try.underlying95 (by rfl) T.z3 T.s3 (by decide) (by simp)
theorem T.fd193_1 {v0 v1 : Value} : aField Try.prog 95 (.agg ⟨[v0, v1]⟩) 1 = some v1 := field_one (cells := [v0, v1]) (f := 1) (off := 1) Try.underlying95 (by rfl) T.r3 rfl
theorem T.l193 {H : Heap} {b off : Nat} : aLoad Try.prog H 95 (.pointer (some ⟨b, off, none⟩)) = (rowsAt (H.get b) off 2).map fun l => .agg ⟨l⟩ := by rw [load_row T.r193 T.z193, T.s193]
theorem T.lp193 {H : Heap} {v0 v1 : Value} : aLoad Try.prog H 95 (fpv [v0, v1]) = some (.agg ⟨[v0, v1]⟩) := load_fz_row T.r193 T.z193 T.s193 rfl
theorem T.w193 {H : Heap} {b off : Nat} {x0 : Value} {x1 : Int} (hx0 : isSl x0 = true) : aStore Try.prog H 95 (.pointer (some ⟨b, off, none⟩)) (.agg ⟨[x0, .int .i64 x1]⟩) = stRow H b off [x0, .int .i64 x1] (H.get b) := store_row (vs := [x0, .int .i64 x1]) T.z193 T.s193 rfl rfl (by simp only [List.all_cons, List.all_nil, isSl_one hx0, Bool.and_true] <;> rfl)
theorem T.new193 : aNew Try.prog (fun _ => none) (.alloc 95) = some (95, [.slice none 0 0, .int .i64 0], fun b => .pointer (some ⟨b, 0, none⟩)) := by kernel_rfl
theorem T.alloc193 {H : Heap} {e : Env} {K : Value → Heap → Prop} {d : Option Tmp} {ty : TypeId} {ps : String} {af : Array Edge} {gd : Option (Nat × Bool)} : aStep Try.prog e H ⟨d, .alloc 95, ty, ps, af, gd⟩ K = K (.pointer (some ⟨H.next, 0, none⟩)) (H.push (.row true 95 [.slice none 0 0, .int .i64 0])) := s_alloc T.new193
theorem T.f216_0 {b o : Nat} : aFieldAddr Try.prog 121 (.pointer (some ⟨b, o, none⟩)) 0 = some (.pointer (some ⟨b, o + 0, none⟩)) := faddr_own Try.underlying121 (by rfl) T.z147 T.s147 (by decide)
theorem T.fs216_0 {v : Value} {o : Nat} : aFieldAddr Try.prog 121 (.pointer (some (sadr v o))) 0 = some (.pointer (some (sadr v (o + 0)))) := T.f216_0
theorem T.fp216_0 {v0 v1 v2 v3 : Value} : aFieldAddr Try.prog 121 (fpv [v0, v1, v2, v3]) 0 = some (fpv [v0]) := faddr_fz (cells := [v0, v1, v2, v3]) (f := 0) (off := 0) (k := 1) Try.underlying121 (by rfl) T.z147 T.s147 (by decide) (by simp)
theorem T.fd216_0 {v0 v1 v2 v3 : Value} : aField Try.prog 121 (.agg ⟨[v0, v1, v2, v3]⟩) 0 = some v0 := field_one (cells := [v0, v1, v2, v3]) (f := 0) (off := 0) Try.underlying121 (by rfl) T.r147 rfl
theorem T.f216_1 {b o : Nat} : aFieldAddr Try.prog 121 (.pointer (some ⟨b, o, none⟩)) 1 = some (.pointer (some ⟨b, o + 1, none⟩)) := faddr_own Try.underlying121 (by rfl) T.z147 T.s147 (by decide)
theorem T.fs216_1 {v : Value} {o : Nat} : aFieldAddr Try.prog 121 (.pointer (some (sadr v o))) 1 = some (.pointer (some (sadr v (o + 1)))) := T.f216_1
theorem T.fp216_1 {v0 v1 v2 v3 : Value} : aFieldAddr Try.prog 121 (fpv [v0, v1, v2, v3]) 1 = some (fpv [v1]) := faddr_fz (cells := [v0, v1, v2, v3]) (f := 1) (off := 1) (k := 1) Try.underlying121 (by rfl) T.z147 T.s147 (by decide) (by simp)
theorem T.fd216_1 {v0 v1 v2 v3 : Value} : aField Try.prog 121 (.agg ⟨[v0, v1, v2, v3]⟩) 1 = some v1 := field_one (cells := [v0, v1, v2, v3]) (f := 1) (off := 1) Try.underlying121 (by rfl) T.r147 rfl
theorem T.f216_2 {b o : Nat} : aFieldAddr Try.prog 121 (.pointer (some ⟨b, o, none⟩)) 2 = some (.pointer (some ⟨b, o + 2, none⟩)) := faddr_own Try.underlying121 (by rfl) T.z24 T.s24 (by decide)
theorem T.fs216_2 {v : Value} {o : Nat} : aFieldAddr Try.prog 121 (.pointer (some (sadr v o))) 2 = some (.pointer (some (sadr v (o + 2)))) := T.f216_2
theorem T.fp216_2 {v0 v1 v2 v3 : Value} : aFieldAddr Try.prog 121 (fpv [v0, v1, v2, v3]) 2 = some (fpv [v2, v3]) := faddr_fz (cells := [v0, v1, v2, v3]) (f := 2) (off := 2) (k := 2) Try.underlying121 (by rfl) T.z24 T.s24 (by decide) (by simp)
theorem T.fd216_2 {v0 v1 v2 v3 : Value} : aField Try.prog 121 (.agg ⟨[v0, v1, v2, v3]⟩) 2 = some (.agg ⟨[v2, v3]⟩) := field_row (cells := [v0, v1, v2, v3]) (f := 2) (off := 2) (k := 2) Try.underlying121 (by rfl) T.r24 T.z24 T.s24
theorem T.l216 {H : Heap} {b off : Nat} : aLoad Try.prog H 121 (.pointer (some ⟨b, off, none⟩)) = (rowsAt (H.get b) off 4).map fun l => .agg ⟨l⟩ := by rw [load_row T.r216 T.z216, T.s216]
theorem T.lp216 {H : Heap} {v0 v1 v2 v3 : Value} : aLoad Try.prog H 121 (fpv [v0, v1, v2, v3]) = some (.agg ⟨[v0, v1, v2, v3]⟩) := load_fz_row T.r216 T.z216 T.s216 rfl
theorem T.w216 {H : Heap} {b off : Nat} {x0 : Value} {x1 : Value} {x20 : Bool} {x21 : Value} (hx0 : isSl x0 = true) (hx1 : isSl x1 = true) (hx21 : isSl x21 = true) : aStore Try.prog H 121 (.pointer (some ⟨b, off, none⟩)) (.agg ⟨[x0, x1, .bool x20, x21]⟩) = stRow H b off [x0, x1, .bool x20, x21] (H.get b) := store_row (vs := [x0, x1, .bool x20, x21]) T.z216 T.s216 rfl rfl (by simp only [List.all_cons, List.all_nil, isSl_one hx0, isSl_one hx1, isSl_one hx21, Bool.and_true] <;> rfl)
theorem T.new216 : aNew Try.prog (fun _ => none) (.alloc 121) = some (121, [.slice none 0 0, .slice none 0 0, .bool false, .slice none 0 0], fun b => .pointer (some ⟨b, 0, none⟩)) := by kernel_rfl
theorem T.alloc216 {H : Heap} {e : Env} {K : Value → Heap → Prop} {d : Option Tmp} {ty : TypeId} {ps : String} {af : Array Edge} {gd : Option (Nat × Bool)} : aStep Try.prog e H ⟨d, .alloc 121, ty, ps, af, gd⟩ K = K (.pointer (some ⟨H.next, 0, none⟩)) (H.push (.row true 121 [.slice none 0 0, .slice none 0 0, .bool false, .slice none 0 0])) := s_alloc T.new216
theorem T.e4 {x y : Operand} {a b : Bool} : aBin Try.prog .eql 4 x y (.bool a) (.bool b) = some (.bool (a == b)) := bin_beql Try.underlying4
theorem T.n4 {x y : Operand} {a b : Bool} : aBin Try.prog .neq 4 x y (.bool a) (.bool b) = some (.bool (a != b)) := bin_bneq Try.underlying4
theorem T.c2_2 {H : Heap} {k : IntKind} {n : Int} : aConv Try.prog H 2 2 (.int k n) = some (.int .i64 (IntKind.i64.wrap n)) := conv_int T.i2 Try.underlying2 Try.underlying2
theorem T.c2_3 {H : Heap} {k : IntKind} {n : Int} : aConv Try.prog H 2 3 (.int k n) = some (.int .i64 (IntKind.i64.wrap n)) := conv_int T.i2 Try.underlying2 Try.underlying3
theorem T.c2_5 {H : Heap} {k : IntKind} {n : Int} : aConv Try.prog H 2 5 (.int k n) = some (.int .u8 (IntKind.u8.wrap n)) := conv_int T.i2 Try.underlying2 Try.underlying5
theorem T.c2_27 {H : Heap} {k : IntKind} {n : Int} : aConv Try.prog H 2 52 (.int k n) = some (.int .i64 (IntKind.i64.wrap n)) := conv_int T.i2 Try.underlying2 Try.underlying52
theorem T.c2_50 {H : Heap} {k : IntKind} {n : Int} : aConv Try.prog H 2 96 (.int k n) = some (.int .u32 (IntKind.u32.wrap n)) := conv_int T.i2 Try.underlying2 Try.underlying96
theorem T.c2_115 {H : Heap} {k : IntKind} {n : Int} : aConv Try.prog H 2 73 (.int k n) = some (.int .i8 (IntKind.i8.wrap n)) := conv_int T.i2 Try.underlying2 Try.underlying73
theorem T.c2_155 {H : Heap} {k : IntKind} {n : Int} : aConv Try.prog H 2 102 (.int k n) = some (.int .u64 (IntKind.u64.wrap n)) := conv_int T.i2 Try.underlying2 Try.underlying102
theorem T.c2_156 {H : Heap} {k : IntKind} {n : Int} : aConv Try.prog H 2 104 (.int k n) = some (.int .u64 (IntKind.u64.wrap n)) := conv_int T.i2 Try.underlying2 Try.underlying104
theorem T.c3_2 {H : Heap} {k : IntKind} {n : Int} : aConv Try.prog H 3 2 (.int k n) = some (.int .i64 (IntKind.i64.wrap n)) := conv_int T.i3 Try.underlying3 Try.underlying2
theorem T.c3_3 {H : Heap} {k : IntKind} {n : Int} : aConv Try.prog H 3 3 (.int k n) = some (.int .i64 (IntKind.i64.wrap n)) := conv_int T.i3 Try.underlying3 Try.underlying3
theorem T.c3_5 {H : Heap} {k : IntKind} {n : Int} : aConv Try.prog H 3 5 (.int k n) = some (.int .u8 (IntKind.u8.wrap n)) := conv_int T.i3 Try.underlying3 Try.underlying5
theorem T.c3_27 {H : Heap} {k : IntKind} {n : Int} : aConv Try.prog H 3 52 (.int k n) = some (.int .i64 (IntKind.i64.wrap n)) := conv_int T.i3 Try.underlying3 Try.underlying52
theorem T.c3_50 {H : Heap} {k : IntKind} {n : Int} : aConv Try.prog H 3 96 (.int k n) = some (.int .u32 (IntKind.u32.wrap n)) := conv_int T.i3 Try.underlying3 Try.underlying96
theorem T.c3_115 {H : Heap} {k : IntKind} {n : Int} : aConv Try.prog H 3 73 (.int k n) = some (.int .i8 (IntKind.i8.wrap n)) := conv_int T.i3 Try.underlying3 Try.underlying73
theorem T.c3_155 {H : Heap} {k : IntKind} {n : Int} : aConv Try.prog H 3 102 (.int k n) = some (.int .u64 (IntKind.u64.wrap n)) := conv_int T.i3 Try.underlying3 Try.underlying102
theorem T.c3_156 {H : Heap} {k : IntKind} {n : Int} : aConv Try.prog H 3 104 (.int k n) = some (.int .u64 (IntKind.u64.wrap n)) := conv_int T.i3 Try.underlying3 Try.underlying104
theorem T.c5_2 {H : Heap} {k : IntKind} {n : Int} : aConv Try.prog H 5 2 (.int k n) = some (.int .i64 (IntKind.i64.wrap n)) := conv_int T.i5 Try.underlying5 Try.underlying2
theorem T.c5_3 {H : Heap} {k : IntKind} {n : Int} : aConv Try.prog H 5 3 (.int k n) = some (.int .i64 (IntKind.i64.wrap n)) := conv_int T.i5 Try.underlying5 Try.underlying3
theorem T.c5_5 {H : Heap} {k : IntKind} {n : Int} : aConv Try.prog H 5 5 (.int k n) = some (.int .u8 (IntKind.u8.wrap n)) := conv_int T.i5 Try.underlying5 Try.underlying5
theorem T.c5_27 {H : Heap} {k : IntKind} {n : Int} : aConv Try.prog H 5 52 (.int k n) = some (.int .i64 (IntKind.i64.wrap n)) := conv_int T.i5 Try.underlying5 Try.underlying52
theorem T.c5_50 {H : Heap} {k : IntKind} {n : Int} : aConv Try.prog H 5 96 (.int k n) = some (.int .u32 (IntKind.u32.wrap n)) := conv_int T.i5 Try.underlying5 Try.underlying96
theorem T.c5_115 {H : Heap} {k : IntKind} {n : Int} : aConv Try.prog H 5 73 (.int k n) = some (.int .i8 (IntKind.i8.wrap n)) := conv_int T.i5 Try.underlying5 Try.underlying73
theorem T.c5_155 {H : Heap} {k : IntKind} {n : Int} : aConv Try.prog H 5 102 (.int k n) = some (.int .u64 (IntKind.u64.wrap n)) := conv_int T.i5 Try.underlying5 Try.underlying102
theorem T.c5_156 {H : Heap} {k : IntKind} {n : Int} : aConv Try.prog H 5 104 (.int k n) = some (.int .u64 (IntKind.u64.wrap n)) := conv_int T.i5 Try.underlying5 Try.underlying104
theorem T.c27_2 {H : Heap} {k : IntKind} {n : Int} : aConv Try.prog H 52 2 (.int k n) = some (.int .i64 (IntKind.i64.wrap n)) := conv_int T.i27 Try.underlying52 Try.underlying2
theorem T.c27_3 {H : Heap} {k : IntKind} {n : Int} : aConv Try.prog H 52 3 (.int k n) = some (.int .i64 (IntKind.i64.wrap n)) := conv_int T.i27 Try.underlying52 Try.underlying3
theorem T.c27_5 {H : Heap} {k : IntKind} {n : Int} : aConv Try.prog H 52 5 (.int k n) = some (.int .u8 (IntKind.u8.wrap n)) := conv_int T.i27 Try.underlying52 Try.underlying5
theorem T.c27_27 {H : Heap} {k : IntKind} {n : Int} : aConv Try.prog H 52 52 (.int k n) = some (.int .i64 (IntKind.i64.wrap n)) := conv_int T.i27 Try.underlying52 Try.underlying52
theorem T.c27_50 {H : Heap} {k : IntKind} {n : Int} : aConv Try.prog H 52 96 (.int k n) = some (.int .u32 (IntKind.u32.wrap n)) := conv_int T.i27 Try.underlying52 Try.underlying96
theorem T.c27_115 {H : Heap} {k : IntKind} {n : Int} : aConv Try.prog H 52 73 (.int k n) = some (.int .i8 (IntKind.i8.wrap n)) := conv_int T.i27 Try.underlying52 Try.underlying73
theorem T.c27_155 {H : Heap} {k : IntKind} {n : Int} : aConv Try.prog H 52 102 (.int k n) = some (.int .u64 (IntKind.u64.wrap n)) := conv_int T.i27 Try.underlying52 Try.underlying102
theorem T.c27_156 {H : Heap} {k : IntKind} {n : Int} : aConv Try.prog H 52 104 (.int k n) = some (.int .u64 (IntKind.u64.wrap n)) := conv_int T.i27 Try.underlying52 Try.underlying104
theorem T.c50_2 {H : Heap} {k : IntKind} {n : Int} : aConv Try.prog H 96 2 (.int k n) = some (.int .i64 (IntKind.i64.wrap n)) := conv_int T.i50 Try.underlying96 Try.underlying2
theorem T.c50_3 {H : Heap} {k : IntKind} {n : Int} : aConv Try.prog H 96 3 (.int k n) = some (.int .i64 (IntKind.i64.wrap n)) := conv_int T.i50 Try.underlying96 Try.underlying3
theorem T.c50_5 {H : Heap} {k : IntKind} {n : Int} : aConv Try.prog H 96 5 (.int k n) = some (.int .u8 (IntKind.u8.wrap n)) := conv_int T.i50 Try.underlying96 Try.underlying5
theorem T.c50_27 {H : Heap} {k : IntKind} {n : Int} : aConv Try.prog H 96 52 (.int k n) = some (.int .i64 (IntKind.i64.wrap n)) := conv_int T.i50 Try.underlying96 Try.underlying52
theorem T.c50_50 {H : Heap} {k : IntKind} {n : Int} : aConv Try.prog H 96 96 (.int k n) = some (.int .u32 (IntKind.u32.wrap n)) := conv_int T.i50 Try.underlying96 Try.underlying96
theorem T.c50_115 {H : Heap} {k : IntKind} {n : Int} : aConv Try.prog H 96 73 (.int k n) = some (.int .i8 (IntKind.i8.wrap n)) := conv_int T.i50 Try.underlying96 Try.underlying73
theorem T.c50_155 {H : Heap} {k : IntKind} {n : Int} : aConv Try.prog H 96 102 (.int k n) = some (.int .u64 (IntKind.u64.wrap n)) := conv_int T.i50 Try.underlying96 Try.underlying102
theorem T.c50_156 {H : Heap} {k : IntKind} {n : Int} : aConv Try.prog H 96 104 (.int k n) = some (.int .u64 (IntKind.u64.wrap n)) := conv_int T.i50 Try.underlying96 Try.underlying104
theorem T.c115_2 {H : Heap} {k : IntKind} {n : Int} : aConv Try.prog H 73 2 (.int k n) = some (.int .i64 (IntKind.i64.wrap n)) := conv_int T.i115 Try.underlying73 Try.underlying2
theorem T.c115_3 {H : Heap} {k : IntKind} {n : Int} : aConv Try.prog H 73 3 (.int k n) = some (.int .i64 (IntKind.i64.wrap n)) := conv_int T.i115 Try.underlying73 Try.underlying3
theorem T.c115_5 {H : Heap} {k : IntKind} {n : Int} : aConv Try.prog H 73 5 (.int k n) = some (.int .u8 (IntKind.u8.wrap n)) := conv_int T.i115 Try.underlying73 Try.underlying5
theorem T.c115_27 {H : Heap} {k : IntKind} {n : Int} : aConv Try.prog H 73 52 (.int k n) = some (.int .i64 (IntKind.i64.wrap n)) := conv_int T.i115 Try.underlying73 Try.underlying52
theorem T.c115_50 {H : Heap} {k : IntKind} {n : Int} : aConv Try.prog H 73 96 (.int k n) = some (.int .u32 (IntKind.u32.wrap n)) := conv_int T.i115 Try.underlying73 Try.underlying96
theorem T.c115_115 {H : Heap} {k : IntKind} {n : Int} : aConv Try.prog H 73 73 (.int k n) = some (.int .i8 (IntKind.i8.wrap n)) := conv_int T.i115 Try.underlying73 Try.underlying73
theorem T.c115_155 {H : Heap} {k : IntKind} {n : Int} : aConv Try.prog H 73 102 (.int k n) = some (.int .u64 (IntKind.u64.wrap n)) := conv_int T.i115 Try.underlying73 Try.underlying102
theorem T.c115_156 {H : Heap} {k : IntKind} {n : Int} : aConv Try.prog H 73 104 (.int k n) = some (.int .u64 (IntKind.u64.wrap n)) := conv_int T.i115 Try.underlying73 Try.underlying104
theorem T.c155_2 {H : Heap} {k : IntKind} {n : Int} : aConv Try.prog H 102 2 (.int k n) = some (.int .i64 (IntKind.i64.wrap n)) := conv_int T.i155 Try.underlying102 Try.underlying2
theorem T.c155_3 {H : Heap} {k : IntKind} {n : Int} : aConv Try.prog H 102 3 (.int k n) = some (.int .i64 (IntKind.i64.wrap n)) := conv_int T.i155 Try.underlying102 Try.underlying3
theorem T.c155_5 {H : Heap} {k : IntKind} {n : Int} : aConv Try.prog H 102 5 (.int k n) = some (.int .u8 (IntKind.u8.wrap n)) := conv_int T.i155 Try.underlying102 Try.underlying5
theorem T.c155_27 {H : Heap} {k : IntKind} {n : Int} : aConv Try.prog H 102 52 (.int k n) = some (.int .i64 (IntKind.i64.wrap n)) := conv_int T.i155 Try.underlying102 Try.underlying52
theorem T.c155_50 {H : Heap} {k : IntKind} {n : Int} : aConv Try.prog H 102 96 (.int k n) = some (.int .u32 (IntKind.u32.wrap n)) := conv_int T.i155 Try.underlying102 Try.underlying96
theorem T.c155_115 {H : Heap} {k : IntKind} {n : Int} : aConv Try.prog H 102 73 (.int k n) = some (.int .i8 (IntKind.i8.wrap n)) := conv_int T.i155 Try.underlying102 Try.underlying73
theorem T.c155_155 {H : Heap} {k : IntKind} {n : Int} : aConv Try.prog H 102 102 (.int k n) = some (.int .u64 (IntKind.u64.wrap n)) := conv_int T.i155 Try.underlying102 Try.underlying102
theorem T.c155_156 {H : Heap} {k : IntKind} {n : Int} : aConv Try.prog H 102 104 (.int k n) = some (.int .u64 (IntKind.u64.wrap n)) := conv_int T.i155 Try.underlying102 Try.underlying104
theorem T.c156_2 {H : Heap} {k : IntKind} {n : Int} : aConv Try.prog H 104 2 (.int k n) = some (.int .i64 (IntKind.i64.wrap n)) := conv_int T.i156 Try.underlying104 Try.underlying2
theorem T.c156_3 {H : Heap} {k : IntKind} {n : Int} : aConv Try.prog H 104 3 (.int k n) = some (.int .i64 (IntKind.i64.wrap n)) := conv_int T.i156 Try.underlying104 Try.underlying3
theorem T.c156_5 {H : Heap} {k : IntKind} {n : Int} : aConv Try.prog H 104 5 (.int k n) = some (.int .u8 (IntKind.u8.wrap n)) := conv_int T.i156 Try.underlying104 Try.underlying5
theorem T.c156_27 {H : Heap} {k : IntKind} {n : Int} : aConv Try.prog H 104 52 (.int k n) = some (.int .i64 (IntKind.i64.wrap n)) := conv_int T.i156 Try.underlying104 Try.underlying52
theorem T.c156_50 {H : Heap} {k : IntKind} {n : Int} : aConv Try.prog H 104 96 (.int k n) = some (.int .u32 (IntKind.u32.wrap n)) := conv_int T.i156 Try.underlying104 Try.underlying96
theorem T.c156_115 {H : Heap} {k : IntKind} {n : Int} : aConv Try.prog H 104 73 (.int k n) = some (.int .i8 (IntKind.i8.wrap n)) := conv_int T.i156 Try.underlying104 Try.underlying73
theorem T.c156_155 {H : Heap} {k : IntKind} {n : Int} : aConv Try.prog H 104 102 (.int k n) = some (.int .u64 (IntKind.u64.wrap n)) := conv_int T.i156 Try.underlying104 Try.underlying102
theorem T.c156_156 {H : Heap} {k : IntKind} {n : Int} : aConv Try.prog H 104 104 (.int k n) = some (.int .u64 (IntKind.u64.wrap n)) := conv_int T.i156 Try.underlying104 Try.underlying104
theorem T.parts22 {H : Heap} {e : Env} {K : Value → Heap → Prop} {d : Option Tmp} {ty : TypeId} {ps : String} {af : Array Edge} {gd : Option (Nat × Bool)} {parts : List (Nat × Operand)} {len : Nat} (hlen : len ≤ 2 ^ 24) : aStep Try.prog e H ⟨d, .buildSlice 38 len ⟨parts⟩, ty, ps, af, gd⟩ K = ob (evps e parts) fun vs => ob (pFill (.int .u32 0) len vs) fun cs => K (.slice (some ⟨H.next, 0, none⟩) len len) (H.push (.row true 96 cs)) :=
  s_parts Try.underlying38 (info_of_type Try.type96) (z := .int .u32 0) rfl rfl rfl rfl hlen
theorem T.make22 {H : Heap} {e : Env} {K : Value → Heap → Prop} {d : Option Tmp} {ty : TypeId} {ps : String} {af : Array Edge} {gd : Option (Nat × Bool)} {x y : Operand} : aStep Try.prog e H ⟨d, .makeSlice 38 x y, ty, ps, af, gd⟩ K = ob (e x) fun a => ob (e y) fun b => ob (aMk 4 a b) fun p => K (.slice (some ⟨H.next, 0, none⟩) p.1 p.2) (H.push (.row true 96 (List.replicate p.2 (.int .u32 0)))) :=
  s_make Try.underlying38 (info_of_type Try.type96) (z := .int .u32 0) rfl rfl rfl rfl
theorem T.nil22 {x y : Operand} {v : Value} (h : isSlc v = true) {n c : Nat} : aBin Try.prog .eql 38 x y v (.slice none n c) = some (.bool (isNil v)) := bin_isNil Try.underlying38 h
theorem T.lz22 {n : Nat} {cells : List Value} : aLen Try.prog 38 (fzv n cells) = some (.int .i64 n) := len_fz T.i22
theorem T.lv22 {α : Type} {e : En α} {l : List α} : aLen Try.prog 38 (Vv e l) = some (.int .i64 l.length) := len_fz T.i22
theorem T.iv22 {l : List _} {k : IntKind} {i : Int} (h0 : 0 ≤ i) (h1 : i < l.length) : aIndexAddr Try.prog 38 (Vv eU l) (.int k i) = some (fpv (eU.enc (l.getD i.toNat eU.d))) := idx_Vv Try.underlying38 T.s50 T.z50 rfl h0 h1
theorem T.up22 {H : Heap} {l : List _} {k : IntKind} {i : Int} (h0 : 0 ≤ i) (h1 : i ≤ l.length) : aSlice Try.prog H 38 (Vv eU l) none (some (.int k i)) none = some (Vv eU (l.take i.toNat)) := upto_Vv Try.underlying38 T.s50 T.z50 rfl h0 h1
theorem T.fr22 {H : Heap} {l : List _} {k : IntKind} {i : Int} (h0 : 0 ≤ i) (h1 : i ≤ l.length) : aSlice Try.prog H 38 (Vv eU l) (some (.int k i)) none none = some (Vv eU (l.drop i.toNat)) := from_Vv Try.underlying38 T.s50 T.z50 rfl h0 h1
theorem T.ln22 : aLen Try.prog 38 (.slice none 0 0) = some (.int .i64 0) := len_nil T.i22
theorem T.rows70 {H : Heap} {e : Env} {K : Value → Heap → Prop} {d : Option Tmp} {ty : TypeId} {ps : String} {af : Array Edge} {gd : Option (Nat × Bool)} {parts : List (Nat × Operand)} {len : Nat} (hlen : len ≤ 2 ^ 20) : aStep Try.prog e H ⟨d, .buildSlice 45 len ⟨parts⟩, ty, ps, af, gd⟩ K = ob (evps e parts) fun vs => ob (rFill 4 (Try.t47.zero.getD undef) len vs) fun cs => K (.slice (some ⟨H.next, 0, none⟩) len len) (H.push (.row true 47 cs)) :=
  s_rows (es := 4) Try.underlying45 (info_of_type Try.type47) (z := Try.t47.zero.getD undef) rfl rfl rfl rfl (by omega) (by omega)
theorem T.makes70 {H : Heap} {e : Env} {K : Value → Heap → Prop} {d : Option Tmp} {ty : TypeId} {ps : String} {af : Array Edge} {gd : Option (Nat × Bool)} {x y : Operand} : aStep Try.prog e H ⟨d, .makeSlice 45 x y, ty, ps, af, gd⟩ K = ob (e x) fun a => ob (e y) fun b => ob (aMk 64 a b) fun p => K (.slice (some ⟨H.next, 0, none⟩) p.1 p.2) (H.push (.row true 47 (repC p.2 [.bool false, .slice none 0 0, .bool false, .slice none 0 0]))) :=
  s_makes (info_of_type Try.type47) Try.underlying45 rfl ⟨rfl, rfl, by decide⟩ rfl
theorem T.nil70 {x y : Operand} {v : Value} (h : isSlc v = true) {n c : Nat} : aBin Try.prog .eql 45 x y v (.slice none n c) = some (.bool (isNil v)) := bin_isNil Try.underlying45 h
theorem T.lz70 {n : Nat} {cells : List Value} : aLen Try.prog 45 (fzv n cells) = some (.int .i64 n) := len_fz T.i70
theorem T.lv70 {α : Type} {e : En α} {l : List α} : aLen Try.prog 45 (Vv e l) = some (.int .i64 l.length) := len_fz T.i70
theorem T.iv70 {l : List _} {k : IntKind} {i : Int} (h0 : 0 ≤ i) (h1 : i < l.length) : aIndexAddr Try.prog 45 (Vv eQ l) (.int k i) = some (fpv (eQ.enc (l.getD i.toNat eQ.d))) := idx_Vv Try.underlying45 T.s55 T.z55 rfl h0 h1
theorem T.up70 {H : Heap} {l : List _} {k : IntKind} {i : Int} (h0 : 0 ≤ i) (h1 : i ≤ l.length) : aSlice Try.prog H 45 (Vv eQ l) none (some (.int k i)) none = some (Vv eQ (l.take i.toNat)) := upto_Vv Try.underlying45 T.s55 T.z55 rfl h0 h1
theorem T.fr70 {H : Heap} {l : List _} {k : IntKind} {i : Int} (h0 : 0 ≤ i) (h1 : i ≤ l.length) : aSlice Try.prog H 45 (Vv eQ l) (some (.int k i)) none none = some (Vv eQ (l.drop i.toNat)) := from_Vv Try.underlying45 T.s55 T.z55 rfl h0 h1
theorem T.ln70 : aLen Try.prog 45 (.slice none 0 0) = some (.int .i64 0) := len_nil T.i70
theorem T.parts72 {H : Heap} {e : Env} {K : Value → Heap → Prop} {d : Option Tmp} {ty : TypeId} {ps : String} {af : Array Edge} {gd : Option (Nat × Bool)} {parts : List (Nat × Operand)} {len : Nat} (hlen : len ≤ 2 ^ 24) : aStep Try.prog e H ⟨d, .buildSlice 23 len ⟨parts⟩, ty, ps, af, gd⟩ K = ob (evps e parts) fun vs => ob (pFill (.slice none 0 0) len vs) fun cs => K (.slice (some ⟨H.next, 0, none⟩) len len) (H.push (.row true 45 cs)) :=
  s_parts Try.underlying23 (info_of_type Try.type45) (z := .slice none 0 0) rfl rfl rfl rfl hlen
theorem T.make72 {H : Heap} {e : Env} {K : Value → Heap → Prop} {d : Option Tmp} {ty : TypeId} {ps : String} {af : Array Edge} {gd : Option (Nat × Bool)} {x y : Operand} : aStep Try.prog e H ⟨d, .makeSlice 23 x y, ty, ps, af, gd⟩ K = ob (e x) fun a => ob (e y) fun b => ob (aMk 24 a b) fun p => K (.slice (some ⟨H.next, 0, none⟩) p.1 p.2) (H.push (.row true 45 (List.replicate p.2 (.slice none 0 0)))) :=
  s_make Try.underlying23 (info_of_type Try.type45) (z := .slice none 0 0) rfl rfl rfl rfl
theorem T.nil72 {x y : Operand} {v : Value} (h : isSlc v = true) {n c : Nat} : aBin Try.prog .eql 23 x y v (.slice none n c) = some (.bool (isNil v)) := bin_isNil Try.underlying23 h
theorem T.lz72 {n : Nat} {cells : List Value} : aLen Try.prog 23 (fzv n cells) = some (.int .i64 n) := len_fz T.i72
theorem T.lv72 {α : Type} {e : En α} {l : List α} : aLen Try.prog 23 (Vv e l) = some (.int .i64 l.length) := len_fz T.i72
theorem T.iv72 {l : List _} {k : IntKind} {i : Int} (h0 : 0 ≤ i) (h1 : i < l.length) : aIndexAddr Try.prog 23 (Vv eR l) (.int k i) = some (fpv (eR.enc (l.getD i.toNat eR.d))) := idx_Vv Try.underlying23 T.s70 T.z70 rfl h0 h1
theorem T.up72 {H : Heap} {l : List _} {k : IntKind} {i : Int} (h0 : 0 ≤ i) (h1 : i ≤ l.length) : aSlice Try.prog H 23 (Vv eR l) none (some (.int k i)) none = some (Vv eR (l.take i.toNat)) := upto_Vv Try.underlying23 T.s70 T.z70 rfl h0 h1
theorem T.fr72 {H : Heap} {l : List _} {k : IntKind} {i : Int} (h0 : 0 ≤ i) (h1 : i ≤ l.length) : aSlice Try.prog H 23 (Vv eR l) (some (.int k i)) none none = some (Vv eR (l.drop i.toNat)) := from_Vv Try.underlying23 T.s70 T.z70 rfl h0 h1
theorem T.ln72 : aLen Try.prog 23 (.slice none 0 0) = some (.int .i64 0) := len_nil T.i72
theorem T.parts114 {H : Heap} {e : Env} {K : Value → Heap → Prop} {d : Option Tmp} {ty : TypeId} {ps : String} {af : Array Edge} {gd : Option (Nat × Bool)} {parts : List (Nat × Operand)} {len : Nat} (hlen : len ≤ 2 ^ 24) : aStep Try.prog e H ⟨d, .buildSlice 72 len ⟨parts⟩, ty, ps, af, gd⟩ K = ob (evps e parts) fun vs => ob (pFill (.int .i8 0) len vs) fun cs => K (.slice (some ⟨H.next, 0, none⟩) len len) (H.push (.row true 73 cs)) :=
  s_parts Try.underlying72 (info_of_type Try.type73) (z := .int .i8 0) rfl rfl rfl rfl hlen
theorem T.make114 {H : Heap} {e : Env} {K : Value → Heap → Prop} {d : Option Tmp} {ty : TypeId} {ps : String} {af : Array Edge} {gd : Option (Nat × Bool)} {x y : Operand} : aStep Try.prog e H ⟨d, .makeSlice 72 x y, ty, ps, af, gd⟩ K = ob (e x) fun a => ob (e y) fun b => ob (aMk 1 a b) fun p => K (.slice (some ⟨H.next, 0, none⟩) p.1 p.2) (H.push (.row true 73 (List.replicate p.2 (.int .i8 0)))) :=
  s_make Try.underlying72 (info_of_type Try.type73) (z := .int .i8 0) rfl rfl rfl rfl
theorem T.nil114 {x y : Operand} {v : Value} (h : isSlc v = true) {n c : Nat} : aBin Try.prog .eql 72 x y v (.slice none n c) = some (.bool (isNil v)) := bin_isNil Try.underlying72 h
theorem T.lz114 {n : Nat} {cells : List Value} : aLen Try.prog 72 (fzv n cells) = some (.int .i64 n) := len_fz T.i114
theorem T.lv114 {α : Type} {e : En α} {l : List α} : aLen Try.prog 72 (Vv e l) = some (.int .i64 l.length) := len_fz T.i114
theorem T.iv114 {l : List _} {k : IntKind} {i : Int} (h0 : 0 ≤ i) (h1 : i < l.length) : aIndexAddr Try.prog 72 (Vv eJ l) (.int k i) = some (fpv (eJ.enc (l.getD i.toNat eJ.d))) := idx_Vv Try.underlying72 T.s115 T.z115 rfl h0 h1
theorem T.up114 {H : Heap} {l : List _} {k : IntKind} {i : Int} (h0 : 0 ≤ i) (h1 : i ≤ l.length) : aSlice Try.prog H 72 (Vv eJ l) none (some (.int k i)) none = some (Vv eJ (l.take i.toNat)) := upto_Vv Try.underlying72 T.s115 T.z115 rfl h0 h1
theorem T.fr114 {H : Heap} {l : List _} {k : IntKind} {i : Int} (h0 : 0 ≤ i) (h1 : i ≤ l.length) : aSlice Try.prog H 72 (Vv eJ l) (some (.int k i)) none none = some (Vv eJ (l.drop i.toNat)) := from_Vv Try.underlying72 T.s115 T.z115 rfl h0 h1
theorem T.ln114 : aLen Try.prog 72 (.slice none 0 0) = some (.int .i64 0) := len_nil T.i114
theorem T.parts116 {H : Heap} {e : Env} {K : Value → Heap → Prop} {d : Option Tmp} {ty : TypeId} {ps : String} {af : Array Edge} {gd : Option (Nat × Bool)} {parts : List (Nat × Operand)} {len : Nat} (hlen : len ≤ 2 ^ 24) : aStep Try.prog e H ⟨d, .buildSlice 74 len ⟨parts⟩, ty, ps, af, gd⟩ K = ob (evps e parts) fun vs => ob (pFill (.int .i64 0) len vs) fun cs => K (.slice (some ⟨H.next, 0, none⟩) len len) (H.push (.row true 2 cs)) :=
  s_parts Try.underlying74 (info_of_type Try.type2) (z := .int .i64 0) rfl rfl rfl rfl hlen
theorem T.make116 {H : Heap} {e : Env} {K : Value → Heap → Prop} {d : Option Tmp} {ty : TypeId} {ps : String} {af : Array Edge} {gd : Option (Nat × Bool)} {x y : Operand} : aStep Try.prog e H ⟨d, .makeSlice 74 x y, ty, ps, af, gd⟩ K = ob (e x) fun a => ob (e y) fun b => ob (aMk 8 a b) fun p => K (.slice (some ⟨H.next, 0, none⟩) p.1 p.2) (H.push (.row true 2 (List.replicate p.2 (.int .i64 0)))) :=
  s_make Try.underlying74 (info_of_type Try.type2) (z := .int .i64 0) rfl rfl rfl rfl
theorem T.nil116 {x y : Operand} {v : Value} (h : isSlc v = true) {n c : Nat} : aBin Try.prog .eql 74 x y v (.slice none n c) = some (.bool (isNil v)) := bin_isNil Try.underlying74 h
theorem T.lz116 {n : Nat} {cells : List Value} : aLen Try.prog 74 (fzv n cells) = some (.int .i64 n) := len_fz T.i116
theorem T.lv116 {α : Type} {e : En α} {l : List α} : aLen Try.prog 74 (Vv e l) = some (.int .i64 l.length) := len_fz T.i116
theorem T.iv116 {l : List _} {k : IntKind} {i : Int} (h0 : 0 ≤ i) (h1 : i < l.length) : aIndexAddr Try.prog 74 (Vv eN l) (.int k i) = some (fpv (eN.enc (l.getD i.toNat eN.d))) := idx_Vv Try.underlying74 T.s2 T.z2 rfl h0 h1
theorem T.up116 {H : Heap} {l : List _} {k : IntKind} {i : Int} (h0 : 0 ≤ i) (h1 : i ≤ l.length) : aSlice Try.prog H 74 (Vv eN l) none (some (.int k i)) none = some (Vv eN (l.take i.toNat)) := upto_Vv Try.underlying74 T.s2 T.z2 rfl h0 h1
theorem T.fr116 {H : Heap} {l : List _} {k : IntKind} {i : Int} (h0 : 0 ≤ i) (h1 : i ≤ l.length) : aSlice Try.prog H 74 (Vv eN l) (some (.int k i)) none none = some (Vv eN (l.drop i.toNat)) := from_Vv Try.underlying74 T.s2 T.z2 rfl h0 h1
theorem T.ln116 : aLen Try.prog 74 (.slice none 0 0) = some (.int .i64 0) := len_nil T.i116
theorem T.rows126 {H : Heap} {e : Env} {K : Value → Heap → Prop} {d : Option Tmp} {ty : TypeId} {ps : String} {af : Array Edge} {gd : Option (Nat × Bool)} {parts : List (Nat × Operand)} {len : Nat} (hlen : len ≤ 2 ^ 20) : aStep Try.prog e H ⟨d, .buildSlice 30 len ⟨parts⟩, ty, ps, af, gd⟩ K = ob (evps e parts) fun vs => ob (rFill 2 (Try.t95.zero.getD undef) len vs) fun cs => K (.slice (some ⟨H.next, 0, none⟩) len len) (H.push (.row true 95 cs)) :=
  s_rows (es := 2) Try.underlying30 (info_of_type Try.type95) (z := Try.t95.zero.getD undef) rfl rfl rfl rfl (by omega) (by omega)
theorem T.makes126 {H : Heap} {e : Env} {K : Value → Heap → Prop} {d : Option Tmp} {ty : TypeId} {ps : String} {af : Array Edge} {gd : Option (Nat × Bool)} {x y : Operand} : aStep Try.prog e H ⟨d, .makeSlice 30 x y, ty, ps, af, gd⟩ K = ob (e x) fun a => ob (e y) fun b => ob (aMk 32 a b) fun p => K (.slice (some ⟨H.next, 0, none⟩) p.1 p.2) (H.push (.row true 95 (repC p.2 [.slice none 0 0, .int .i64 0]))) :=
  s_makes (info_of_type Try.type95) Try.underlying30 rfl ⟨rfl, rfl, by decide⟩ rfl
theorem T.nil126 {x y : Operand} {v : Value} (h : isSlc v = true) {n c : Nat} : aBin Try.prog .eql 30 x y v (.slice none n c) = some (.bool (isNil v)) := bin_isNil Try.underlying30 h
theorem T.lz126 {n : Nat} {cells : List Value} : aLen Try.prog 30 (fzv n cells) = some (.int .i64 n) := len_fz T.i126
theorem T.lv126 {α : Type} {e : En α} {l : List α} : aLen Try.prog 30 (Vv e l) = some (.int .i64 l.length) := len_fz T.i126
theorem T.ln126 : aLen Try.prog 30 (.slice none 0 0) = some (.int .i64 0) := len_nil T.i126
theorem T.parts127 {H : Heap} {e : Env} {K : Value → Heap → Prop} {d : Option Tmp} {ty : TypeId} {ps : String} {af : Array Edge} {gd : Option (Nat × Bool)} {parts : List (Nat × Operand)} {len : Nat} (hlen : len ≤ 2 ^ 24) : aStep Try.prog e H ⟨d, .buildSlice 31 len ⟨parts⟩, ty, ps, af, gd⟩ K = ob (evps e parts) fun vs => ob (pFill (.string ByteArray.empty) len vs) fun cs => K (.slice (some ⟨H.next, 0, none⟩) len len) (H.push (.row true 9 cs)) :=
  s_parts Try.underlying31 (info_of_type Try.type9) (z := .string ByteArray.empty) rfl rfl rfl rfl hlen
theorem T.make127 {H : Heap} {e : Env} {K : Value → Heap → Prop} {d : Option Tmp} {ty : TypeId} {ps : String} {af : Array Edge} {gd : Option (Nat × Bool)} {x y : Operand} : aStep Try.prog e H ⟨d, .makeSlice 31 x y, ty, ps, af, gd⟩ K = ob (e x) fun a => ob (e y) fun b => ob (aMk 16 a b) fun p => K (.slice (some ⟨H.next, 0, none⟩) p.1 p.2) (H.push (.row true 9 (List.replicate p.2 (.string ByteArray.empty)))) :=
  s_make Try.underlying31 (info_of_type Try.type9) (z := .string ByteArray.empty) rfl rfl rfl rfl
theorem T.nil127 {x y : Operand} {v : Value} (h : isSlc v = true) {n c : Nat} : aBin Try.prog .eql 31 x y v (.slice none n c) = some (.bool (isNil v)) := bin_isNil Try.underlying31 h
theorem T.lz127 {n : Nat} {cells : List Value} : aLen Try.prog 31 (fzv n cells) = some (.int .i64 n) := len_fz T.i127
theorem T.lv127 {α : Type} {e : En α} {l : List α} : aLen Try.prog 31 (Vv e l) = some (.int .i64 l.length) := len_fz T.i127
theorem T.iv127 {l : List _} {k : IntKind} {i : Int} (h0 : 0 ≤ i) (h1 : i < l.length) : aIndexAddr Try.prog 31 (Vv eS l) (.int k i) = some (fpv (eS.enc (l.getD i.toNat eS.d))) := idx_Vv Try.underlying31 T.s9 T.z9 rfl h0 h1
theorem T.up127 {H : Heap} {l : List _} {k : IntKind} {i : Int} (h0 : 0 ≤ i) (h1 : i ≤ l.length) : aSlice Try.prog H 31 (Vv eS l) none (some (.int k i)) none = some (Vv eS (l.take i.toNat)) := upto_Vv Try.underlying31 T.s9 T.z9 rfl h0 h1
theorem T.fr127 {H : Heap} {l : List _} {k : IntKind} {i : Int} (h0 : 0 ≤ i) (h1 : i ≤ l.length) : aSlice Try.prog H 31 (Vv eS l) (some (.int k i)) none none = some (Vv eS (l.drop i.toNat)) := from_Vv Try.underlying31 T.s9 T.z9 rfl h0 h1
theorem T.ln127 : aLen Try.prog 31 (.slice none 0 0) = some (.int .i64 0) := len_nil T.i127
theorem T.rows128 {H : Heap} {e : Env} {K : Value → Heap → Prop} {d : Option Tmp} {ty : TypeId} {ps : String} {af : Array Edge} {gd : Option (Nat × Bool)} {parts : List (Nat × Operand)} {len : Nat} (hlen : len ≤ 2 ^ 20) : aStep Try.prog e H ⟨d, .buildSlice 32 len ⟨parts⟩, ty, ps, af, gd⟩ K = ob (evps e parts) fun vs => ob (rFill 6 (Try.t89.zero.getD undef) len vs) fun cs => K (.slice (some ⟨H.next, 0, none⟩) len len) (H.push (.row true 89 cs)) :=
  s_rows (es := 6) Try.underlying32 (info_of_type Try.type89) (z := Try.t89.zero.getD undef) rfl rfl rfl rfl (by omega) (by omega)
theorem T.makes128 {H : Heap} {e : Env} {K : Value → Heap → Prop} {d : Option Tmp} {ty : TypeId} {ps : String} {af : Array Edge} {gd : Option (Nat × Bool)} {x y : Operand} : aStep Try.prog e H ⟨d, .makeSlice 32 x y, ty, ps, af, gd⟩ K = ob (e x) fun a => ob (e y) fun b => ob (aMk 96 a b) fun p => K (.slice (some ⟨H.next, 0, none⟩) p.1 p.2) (H.push (.row true 89 (repC p.2 [.int .i64 0, .int .i64 0, .int .i64 0, .slice none 0 0, .slice none 0 0, .slice none 0 0]))) :=
  s_makes (info_of_type Try.type89) Try.underlying32 rfl ⟨rfl, rfl, by decide⟩ rfl
theorem T.nil128 {x y : Operand} {v : Value} (h : isSlc v = true) {n c : Nat} : aBin Try.prog .eql 32 x y v (.slice none n c) = some (.bool (isNil v)) := bin_isNil Try.underlying32 h
theorem T.lz128 {n : Nat} {cells : List Value} : aLen Try.prog 32 (fzv n cells) = some (.int .i64 n) := len_fz T.i128
theorem T.lv128 {α : Type} {e : En α} {l : List α} : aLen Try.prog 32 (Vv e l) = some (.int .i64 l.length) := len_fz T.i128
theorem T.ln128 : aLen Try.prog 32 (.slice none 0 0) = some (.int .i64 0) := len_nil T.i128
theorem T.rows129 {H : Heap} {e : Env} {K : Value → Heap → Prop} {d : Option Tmp} {ty : TypeId} {ps : String} {af : Array Edge} {gd : Option (Nat × Bool)} {parts : List (Nat × Operand)} {len : Nat} (hlen : len ≤ 2 ^ 20) : aStep Try.prog e H ⟨d, .buildSlice 33 len ⟨parts⟩, ty, ps, af, gd⟩ K = ob (evps e parts) fun vs => ob (rFill 4 (Try.t92.zero.getD undef) len vs) fun cs => K (.slice (some ⟨H.next, 0, none⟩) len len) (H.push (.row true 92 cs)) :=
  s_rows (es := 4) Try.underlying33 (info_of_type Try.type92) (z := Try.t92.zero.getD undef) rfl rfl rfl rfl (by omega) (by omega)
theorem T.makes129 {H : Heap} {e : Env} {K : Value → Heap → Prop} {d : Option Tmp} {ty : TypeId} {ps : String} {af : Array Edge} {gd : Option (Nat × Bool)} {x y : Operand} : aStep Try.prog e H ⟨d, .makeSlice 33 x y, ty, ps, af, gd⟩ K = ob (e x) fun a => ob (e y) fun b => ob (aMk 48 a b) fun p => K (.slice (some ⟨H.next, 0, none⟩) p.1 p.2) (H.push (.row true 92 (repC p.2 [.int .i64 0, .int .i64 0, .int .i64 0, .slice none 0 0]))) :=
  s_makes (info_of_type Try.type92) Try.underlying33 rfl ⟨rfl, rfl, by decide⟩ rfl
theorem T.nil129 {x y : Operand} {v : Value} (h : isSlc v = true) {n c : Nat} : aBin Try.prog .eql 33 x y v (.slice none n c) = some (.bool (isNil v)) := bin_isNil Try.underlying33 h
theorem T.lz129 {n : Nat} {cells : List Value} : aLen Try.prog 33 (fzv n cells) = some (.int .i64 n) := len_fz T.i129
theorem T.lv129 {α : Type} {e : En α} {l : List α} : aLen Try.prog 33 (Vv e l) = some (.int .i64 l.length) := len_fz T.i129
theorem T.ln129 : aLen Try.prog 33 (.slice none 0 0) = some (.int .i64 0) := len_nil T.i129
theorem T.rows142 {H : Heap} {e : Env} {K : Value → Heap → Prop} {d : Option Tmp} {ty : TypeId} {ps : String} {af : Array Edge} {gd : Option (Nat × Bool)} {parts : List (Nat × Operand)} {len : Nat} (hlen : len ≤ 2 ^ 20) : aStep Try.prog e H ⟨d, .buildSlice 86 len ⟨parts⟩, ty, ps, af, gd⟩ K = ob (evps e parts) fun vs => ob (rFill 4 (Try.t121.zero.getD undef) len vs) fun cs => K (.slice (some ⟨H.next, 0, none⟩) len len) (H.push (.row true 121 cs)) :=
  s_rows (es := 4) Try.underlying86 (info_of_type Try.type121) (z := Try.t121.zero.getD undef) rfl rfl rfl rfl (by omega) (by omega)
theorem T.makes142 {H : Heap} {e : Env} {K : Value → Heap → Prop} {d : Option Tmp} {ty : TypeId} {ps : String} {af : Array Edge} {gd : Option (Nat × Bool)} {x y : Operand} : aStep Try.prog e H ⟨d, .makeSlice 86 x y, ty, ps, af, gd⟩ K = ob (e x) fun a => ob (e y) fun b => ob (aMk 80 a b) fun p => K (.slice (some ⟨H.next, 0, none⟩) p.1 p.2) (H.push (.row true 121 (repC p.2 [.slice none 0 0, .slice none 0 0, .bool false, .slice none 0 0]))) :=
  s_makes (info_of_type Try.type121) Try.underlying86 rfl ⟨rfl, rfl, by decide⟩ rfl
theorem T.nil142 {x y : Operand} {v : Value} (h : isSlc v = true) {n c : Nat} : aBin Try.prog .eql 86 x y v (.slice none n c) = some (.bool (isNil v)) := bin_isNil Try.underlying86 h
theorem T.lz142 {n : Nat} {cells : List Value} : aLen Try.prog 86 (fzv n cells) = some (.int .i64 n) := len_fz T.i142
theorem T.lv142 {α : Type} {e : En α} {l : List α} : aLen Try.prog 86 (Vv e l) = some (.int .i64 l.length) := len_fz T.i142
theorem T.ln142 : aLen Try.prog 86 (.slice none 0 0) = some (.int .i64 0) := len_nil T.i142
theorem T.parts143 {H : Heap} {e : Env} {K : Value → Heap → Prop} {d : Option Tmp} {ty : TypeId} {ps : String} {af : Array Edge} {gd : Option (Nat × Bool)} {parts : List (Nat × Operand)} {len : Nat} (hlen : len ≤ 2 ^ 24) : aStep Try.prog e H ⟨d, .buildSlice 87 len ⟨parts⟩, ty, ps, af, gd⟩ K = ob (evps e parts) fun vs => ob (pFill (.bool false) len vs) fun cs => K (.slice (some ⟨H.next, 0, none⟩) len len) (H.push (.row true 4 cs)) :=
  s_parts Try.underlying87 (info_of_type Try.type4) (z := .bool false) rfl rfl rfl rfl hlen
theorem T.make143 {H : Heap} {e : Env} {K : Value → Heap → Prop} {d : Option Tmp} {ty : TypeId} {ps : String} {af : Array Edge} {gd : Option (Nat × Bool)} {x y : Operand} : aStep Try.prog e H ⟨d, .makeSlice 87 x y, ty, ps, af, gd⟩ K = ob (e x) fun a => ob (e y) fun b => ob (aMk 1 a b) fun p => K (.slice (some ⟨H.next, 0, none⟩) p.1 p.2) (H.push (.row true 4 (List.replicate p.2 (.bool false)))) :=
  s_make Try.underlying87 (info_of_type Try.type4) (z := .bool false) rfl rfl rfl rfl
theorem T.nil143 {x y : Operand} {v : Value} (h : isSlc v = true) {n c : Nat} : aBin Try.prog .eql 87 x y v (.slice none n c) = some (.bool (isNil v)) := bin_isNil Try.underlying87 h
theorem T.lz143 {n : Nat} {cells : List Value} : aLen Try.prog 87 (fzv n cells) = some (.int .i64 n) := len_fz T.i143
theorem T.lv143 {α : Type} {e : En α} {l : List α} : aLen Try.prog 87 (Vv e l) = some (.int .i64 l.length) := len_fz T.i143
theorem T.iv143 {l : List _} {k : IntKind} {i : Int} (h0 : 0 ≤ i) (h1 : i < l.length) : aIndexAddr Try.prog 87 (Vv eB l) (.int k i) = some (fpv (eB.enc (l.getD i.toNat eB.d))) := idx_Vv Try.underlying87 T.s4 T.z4 rfl h0 h1
theorem T.up143 {H : Heap} {l : List _} {k : IntKind} {i : Int} (h0 : 0 ≤ i) (h1 : i ≤ l.length) : aSlice Try.prog H 87 (Vv eB l) none (some (.int k i)) none = some (Vv eB (l.take i.toNat)) := upto_Vv Try.underlying87 T.s4 T.z4 rfl h0 h1
theorem T.fr143 {H : Heap} {l : List _} {k : IntKind} {i : Int} (h0 : 0 ≤ i) (h1 : i ≤ l.length) : aSlice Try.prog H 87 (Vv eB l) (some (.int k i)) none none = some (Vv eB (l.drop i.toNat)) := from_Vv Try.underlying87 T.s4 T.z4 rfl h0 h1
theorem T.ln143 : aLen Try.prog 87 (.slice none 0 0) = some (.int .i64 0) := len_nil T.i143
theorem T.rows147 {H : Heap} {e : Env} {K : Value → Heap → Prop} {d : Option Tmp} {ty : TypeId} {ps : String} {af : Array Edge} {gd : Option (Nat × Bool)} {parts : List (Nat × Operand)} {len : Nat} (hlen : len ≤ 2 ^ 20) : aStep Try.prog e H ⟨d, .buildSlice 97 len ⟨parts⟩, ty, ps, af, gd⟩ K = ob (evps e parts) fun vs => ob (rFill 2 (Try.t40.zero.getD undef) len vs) fun cs => K (.slice (some ⟨H.next, 0, none⟩) len len) (H.push (.row true 40 cs)) :=
  s_rows (es := 2) Try.underlying97 (info_of_type Try.type40) (z := Try.t40.zero.getD undef) rfl rfl rfl rfl (by omega) (by omega)
theorem T.makes147 {H : Heap} {e : Env} {K : Value → Heap → Prop} {d : Option Tmp} {ty : TypeId} {ps : String} {af : Array Edge} {gd : Option (Nat × Bool)} {x y : Operand} : aStep Try.prog e H ⟨d, .makeSlice 97 x y, ty, ps, af, gd⟩ K = ob (e x) fun a => ob (e y) fun b => ob (aMk 32 a b) fun p => K (.slice (some ⟨H.next, 0, none⟩) p.1 p.2) (H.push (.row true 40 (repC p.2 [.bool false, .slice none 0 0]))) :=
  s_makes (info_of_type Try.type40) Try.underlying97 rfl ⟨rfl, rfl, by decide⟩ rfl
theorem T.nil147 {x y : Operand} {v : Value} (h : isSlc v = true) {n c : Nat} : aBin Try.prog .eql 97 x y v (.slice none n c) = some (.bool (isNil v)) := bin_isNil Try.underlying97 h
theorem T.lz147 {n : Nat} {cells : List Value} : aLen Try.prog 97 (fzv n cells) = some (.int .i64 n) := len_fz T.i147
theorem T.lv147 {α : Type} {e : En α} {l : List α} : aLen Try.prog 97 (Vv e l) = some (.int .i64 l.length) := len_fz T.i147
theorem T.iv147 {l : List _} {k : IntKind} {i : Int} (h0 : 0 ≤ i) (h1 : i < l.length) : aIndexAddr Try.prog 97 (Vv eI l) (.int k i) = some (fpv (eI.enc (l.getD i.toNat eI.d))) := idx_Vv Try.underlying97 T.s24 T.z24 rfl h0 h1
theorem T.up147 {H : Heap} {l : List _} {k : IntKind} {i : Int} (h0 : 0 ≤ i) (h1 : i ≤ l.length) : aSlice Try.prog H 97 (Vv eI l) none (some (.int k i)) none = some (Vv eI (l.take i.toNat)) := upto_Vv Try.underlying97 T.s24 T.z24 rfl h0 h1
theorem T.fr147 {H : Heap} {l : List _} {k : IntKind} {i : Int} (h0 : 0 ≤ i) (h1 : i ≤ l.length) : aSlice Try.prog H 97 (Vv eI l) (some (.int k i)) none none = some (Vv eI (l.drop i.toNat)) := from_Vv Try.underlying97 T.s24 T.z24 rfl h0 h1
theorem T.ln147 : aLen Try.prog 97 (.slice none 0 0) = some (.int .i64 0) := len_nil T.i147
theorem T.parts191 {H : Heap} {e : Env} {K : Value → Heap → Prop} {d : Option Tmp} {ty : TypeId} {ps : String} {af : Array Edge} {gd : Option (Nat × Bool)} {parts : List (Nat × Operand)} {len : Nat} (hlen : len ≤ 2 ^ 24) : aStep Try.prog e H ⟨d, .buildSlice 93 len ⟨parts⟩, ty, ps, af, gd⟩ K = ob (evps e parts) fun vs => ob (pFill (.int .i64 0) len vs) fun cs => K (.slice (some ⟨H.next, 0, none⟩) len len) (H.push (.row true 3 cs)) :=
  s_parts Try.underlying93 (info_of_type Try.type3) (z := .int .i64 0) rfl rfl rfl rfl hlen
theorem T.make191 {H : Heap} {e : Env} {K : Value → Heap → Prop} {d : Option Tmp} {ty : TypeId} {ps : String} {af : Array Edge} {gd : Option (Nat × Bool)} {x y : Operand} : aStep Try.prog e H ⟨d, .makeSlice 93 x y, ty, ps, af, gd⟩ K = ob (e x) fun a => ob (e y) fun b => ob (aMk 8 a b) fun p => K (.slice (some ⟨H.next, 0, none⟩) p.1 p.2) (H.push (.row true 3 (List.replicate p.2 (.int .i64 0)))) :=
  s_make Try.underlying93 (info_of_type Try.type3) (z := .int .i64 0) rfl rfl rfl rfl
theorem T.nil191 {x y : Operand} {v : Value} (h : isSlc v = true) {n c : Nat} : aBin Try.prog .eql 93 x y v (.slice none n c) = some (.bool (isNil v)) := bin_isNil Try.underlying93 h
theorem T.lz191 {n : Nat} {cells : List Value} : aLen Try.prog 93 (fzv n cells) = some (.int .i64 n) := len_fz T.i191
theorem T.lv191 {α : Type} {e : En α} {l : List α} : aLen Try.prog 93 (Vv e l) = some (.int .i64 l.length) := len_fz T.i191
theorem T.iv191 {l : List _} {k : IntKind} {i : Int} (h0 : 0 ≤ i) (h1 : i < l.length) : aIndexAddr Try.prog 93 (Vv eN l) (.int k i) = some (fpv (eN.enc (l.getD i.toNat eN.d))) := idx_Vv Try.underlying93 T.s3 T.z3 rfl h0 h1
theorem T.up191 {H : Heap} {l : List _} {k : IntKind} {i : Int} (h0 : 0 ≤ i) (h1 : i ≤ l.length) : aSlice Try.prog H 93 (Vv eN l) none (some (.int k i)) none = some (Vv eN (l.take i.toNat)) := upto_Vv Try.underlying93 T.s3 T.z3 rfl h0 h1
theorem T.fr191 {H : Heap} {l : List _} {k : IntKind} {i : Int} (h0 : 0 ≤ i) (h1 : i ≤ l.length) : aSlice Try.prog H 93 (Vv eN l) (some (.int k i)) none none = some (Vv eN (l.drop i.toNat)) := from_Vv Try.underlying93 T.s3 T.z3 rfl h0 h1
theorem T.ln191 : aLen Try.prog 93 (.slice none 0 0) = some (.int .i64 0) := len_nil T.i191
theorem T.b24_   : aBuild Try.prog 40 (some []) = some (.agg ⟨[.bool false, .slice none 0 0]⟩) := by  kernel_rfl
theorem T.b24_0_1 {x : Bool} {y : Value} (hy : isSl y = true) : aBuild Try.prog 40 (some [(0, .bool x), (1, y)]) = some (.agg ⟨[.bool x, y]⟩) := by rcases isSl_form hy with ⟨_, _, _, rfl⟩ | ⟨_, _, rfl⟩ <;> kernel_rfl
theorem T.b55_   : aBuild Try.prog 47 (some []) = some (.agg ⟨[.bool false, .slice none 0 0, .bool false, .slice none 0 0]⟩) := by  kernel_rfl
theorem T.b55_0_1 {x0 : Bool} {x1 : Value} {y0 : Bool} {y1 : Value} (hx1 : isSl x1 = true) (hy1 : isSl y1 = true) : aBuild Try.prog 47 (some [(0, .agg ⟨[.bool x0, x1]⟩), (1, .agg ⟨[.bool y0, y1]⟩)]) = some (.agg ⟨[.bool x0, x1, .bool y0, y1]⟩) := by rcases isSl_form hx1 with ⟨_, _, _, rfl⟩ | ⟨_, _, rfl⟩ <;> rcases isSl_form hy1 with ⟨_, _, _, rfl⟩ | ⟨_, _, rfl⟩ <;> kernel_rfl
theorem T.b55_1 {y0 : Bool} {y1 : Value} (hy1 : isSl y1 = true) : aBuild Try.prog 47 (some [(1, .agg ⟨[.bool y0, y1]⟩)]) = some (.agg ⟨[.bool false, .slice none 0 0, .bool y0, y1]⟩) := by rcases isSl_form hy1 with ⟨_, _, _, rfl⟩ | ⟨_, _, rfl⟩ <;> kernel_rfl
theorem T.b107_0_1_2_3 {x : Int} {y : Value} {z : Value} {u : Value} (hy : isSl y = true) (hz : isSl z = true) (hu : isSl u = true) : aBuild Try.prog 62 (some [(0, .int .i64 x), (1, y), (2, z), (3, u)]) = some (.agg ⟨[.int .i64 x, y, z, u]⟩) := by rcases isSl_form hy with ⟨_, _, _, rfl⟩ | ⟨_, _, rfl⟩ <;> rcases isSl_form hz with ⟨_, _, _, rfl⟩ | ⟨_, _, rfl⟩ <;> rcases isSl_form hu with ⟨_, _, _, rfl⟩ | ⟨_, _, rfl⟩ <;> kernel_rfl
theorem T.b107_0_3 {x : Int} {u : Value} (hu : isSl u = true) : aBuild Try.prog 62 (some [(0, .int .i64 x), (3, u)]) = some (.agg ⟨[.int .i64 x, .slice none 0 0, .slice none 0 0, u]⟩) := by rcases isSl_form hu with ⟨_, _, _, rfl⟩ | ⟨_, _, rfl⟩ <;> kernel_rfl
theorem T.b110_0_1 {x : Int} {y00 : Bool} {y01 : Value} {y10 : Bool} {y11 : Value} (hy01 : isSl y01 = true) (hy11 : isSl y11 = true) : aBuild Try.prog 65 (some [(0, .int .i64 x), (1, .agg ⟨[.bool y00, y01, .bool y10, y11]⟩)]) = some (.agg ⟨[.int .i64 x, .bool y00, y01, .bool y10, y11, .slice none 0 0, .slice none 0 0, .slice none 0 0]⟩) := by rcases isSl_form hy01 with ⟨_, _, _, rfl⟩ | ⟨_, _, rfl⟩ <;> rcases isSl_form hy11 with ⟨_, _, _, rfl⟩ | ⟨_, _, rfl⟩ <;> kernel_rfl
theorem T.b110_0_1_2_3 {x : Int} {y00 : Bool} {y01 : Value} {y10 : Bool} {y11 : Value} {z : Value} {u : Value} (hy01 : isSl y01 = true) (hy11 : isSl y11 = true) (hz : isSl z = true) (hu : isSl u = true) : aBuild Try.prog 65 (some [(0, .int .i64 x), (1, .agg ⟨[.bool y00, y01, .bool y10, y11]⟩), (2, z), (3, u)]) = some (.agg ⟨[.int .i64 x, .bool y00, y01, .bool y10, y11, z, u, .slice none 0 0]⟩) := by rcases isSl_form hy01 with ⟨_, _, _, rfl⟩ | ⟨_, _, rfl⟩ <;> rcases isSl_form hy11 with ⟨_, _, _, rfl⟩ | ⟨_, _, rfl⟩ <;> rcases isSl_form hz with ⟨_, _, _, rfl⟩ | ⟨_, _, rfl⟩ <;> rcases isSl_form hu with ⟨_, _, _, rfl⟩ | ⟨_, _, rfl⟩ <;> kernel_rfl
theorem T.b110_2 {z : Value} (hz : isSl z = true) : aBuild Try.prog 65 (some [(2, z)]) = some (.agg ⟨[.int .i64 0, .bool false, .slice none 0 0, .bool false, .slice none 0 0, z, .slice none 0 0, .slice none 0 0]⟩) := by rcases isSl_form hz with ⟨_, _, _, rfl⟩ | ⟨_, _, rfl⟩ <;> kernel_rfl
theorem T.b121_0 {x : Value} (hx : isSl x = true) : aBuild Try.prog 25 (some [(0, x)]) = some (.agg ⟨[x]⟩) := by rcases isSl_form hx with ⟨_, _, _, rfl⟩ | ⟨_, _, rfl⟩ <;> kernel_rfl
theorem T.b131_0 {x : Value} (hx : isSl x = true) : aBuild Try.prog 35 (some [(0, x)]) = some (.agg ⟨[x, .slice none 0 0, .slice none 0 0, .slice none 0 0]⟩) := by rcases isSl_form hx with ⟨_, _, _, rfl⟩ | ⟨_, _, rfl⟩ <;> kernel_rfl
theorem T.b193_   : aBuild Try.prog 95 (some []) = some (.agg ⟨[.slice none 0 0, .int .i64 0]⟩) := by  kernel_rfl
attribute [go_sem] T.l2 T.lp2 T.w2 T.alloc2 T.l3 T.lp3 T.w3 T.alloc3 T.l4 T.lp4 T.w4 T.alloc4
attribute [go_sem] T.l5 T.lp5 T.w5 T.alloc5 T.l9 T.lp9 T.w9 T.alloc9 T.l22 T.lp22 T.w22 T.alloc22
attribute [go_sem] T.f24_0 T.fs24_0 T.fp24_0 T.fd24_0 T.f24_1 T.fs24_1 T.fp24_1 T.fd24_1 T.l24 T.lp24 T.w24 T.alloc24
attribute [go_sem] T.l27 T.lp27 T.w27 T.alloc27 T.l50 T.lp50 T.w50 T.alloc50 T.f55_0 T.fs55_0 T.fp55_0 T.fd55_0
attribute [go_sem] T.f55_1 T.fs55_1 T.fp55_1 T.fd55_1 T.l55 T.lp55 T.w55 T.alloc55 T.l70 T.lp70 T.w70 T.alloc70
attribute [go_sem] T.l72 T.lp72 T.w72 T.alloc72 T.f107_0 T.fs107_0 T.fp107_0 T.fd107_0 T.f107_1 T.fs107_1 T.fp107_1 T.fd107_1
attribute [go_sem] T.f107_2 T.fs107_2 T.fp107_2 T.fd107_2 T.f107_3 T.fs107_3 T.fp107_3 T.fd107_3 T.l107 T.lp107 T.w107 T.alloc107
attribute [go_sem] T.f110_0 T.fs110_0 T.fp110_0 T.fd110_0 T.f110_1 T.fs110_1 T.fp110_1 T.fd110_1 T.f110_2 T.fs110_2 T.fp110_2 T.fd110_2
attribute [go_sem] T.f110_3 T.fs110_3 T.fp110_3 T.fd110_3 T.f110_4 T.fs110_4 T.fp110_4 T.fd110_4 T.l110 T.lp110 T.w110 T.alloc110
attribute [go_sem] T.l114 T.lp114 T.w114 T.alloc114 T.l115 T.lp115 T.w115 T.alloc115 T.l116 T.lp116 T.w116 T.alloc116
attribute [go_sem] T.f121_0 T.fs121_0 T.fp121_0 T.fd121_0 T.l121 T.lp121 T.w121 T.alloc121 T.l126 T.lp126 T.w126 T.alloc126
attribute [go_sem] T.l127 T.lp127 T.w127 T.alloc127 T.l128 T.lp128 T.w128 T.alloc128 T.l129 T.lp129 T.w129 T.alloc129
attribute [go_sem] T.f131_0 T.fs131_0 T.fp131_0 T.fd131_0 T.f131_1 T.fs131_1 T.fp131_1 T.fd131_1 T.f131_2 T.fs131_2 T.fp131_2 T.fd131_2
attribute [go_sem] T.f131_3 T.fs131_3 T.fp131_3 T.fd131_3 T.l131 T.lp131 T.w131 T.alloc131 T.l142 T.lp142 T.w142 T.alloc142
attribute [go_sem] T.l143 T.lp143 T.w143 T.alloc143 T.f145_0 T.fs145_0 T.fp145_0 T.fd145_0 T.f145_1 T.fs145_1 T.fp145_1 T.fd145_1
attribute [go_sem] T.f145_2 T.fs145_2 T.fp145_2 T.fd145_2 T.f145_3 T.fs145_3 T.fp145_3 T.fd145_3 T.f145_4 T.fs145_4 T.fp145_4 T.fd145_4
attribute [go_sem] T.f145_5 T.fs145_5 T.fp145_5 T.fd145_5 T.l145 T.lp145 T.w145 T.alloc145 T.l147 T.lp147 T.w147 T.alloc147
attribute [go_sem] T.l155 T.lp155 T.w155 T.alloc155 T.l156 T.lp156 T.w156 T.alloc156 T.f190_0 T.fs190_0 T.fp190_0 T.fd190_0
attribute [go_sem] T.f190_1 T.fs190_1 T.fp190_1 T.fd190_1 T.f190_2 T.fs190_2 T.fp190_2 T.fd190_2 T.f190_3 T.fs190_3 T.fp190_3 T.fd190_3
attribute [go_sem] T.l190 T.lp190 T.w190 T.alloc190 T.l191 T.lp191 T.w191 T.alloc191 T.f193_0 T.fs193_0 T.fp193_0 T.fd193_0
attribute [go_sem] T.f193_1 T.fs193_1 T.fp193_1 T.fd193_1 T.l193 T.lp193 T.w193 T.alloc193 T.f216_0 T.fs216_0 T.fp216_0 T.fd216_0
attribute [go_sem] T.f216_1 T.fs216_1 T.fp216_1 T.fd216_1 T.f216_2 T.fs216_2 T.fp216_2 T.fd216_2 T.l216 T.lp216 T.w216 T.alloc216
attribute [go_sem] T.e4 T.n4 T.c2_2 T.c2_3 T.c2_5 T.c2_27 T.c2_50 T.c2_115 T.c2_155 T.c2_156 T.c3_2 T.c3_3
attribute [go_sem] T.c3_5 T.c3_27 T.c3_50 T.c3_115 T.c3_155 T.c3_156 T.c5_2 T.c5_3 T.c5_5 T.c5_27 T.c5_50 T.c5_115
attribute [go_sem] T.c5_155 T.c5_156 T.c27_2 T.c27_3 T.c27_5 T.c27_27 T.c27_50 T.c27_115 T.c27_155 T.c27_156 T.c50_2 T.c50_3
attribute [go_sem] T.c50_5 T.c50_27 T.c50_50 T.c50_115 T.c50_155 T.c50_156 T.c115_2 T.c115_3 T.c115_5 T.c115_27 T.c115_50 T.c115_115
attribute [go_sem] T.c115_155 T.c115_156 T.c155_2 T.c155_3 T.c155_5 T.c155_27 T.c155_50 T.c155_115 T.c155_155 T.c155_156 T.c156_2 T.c156_3
attribute [go_sem] T.c156_5 T.c156_27 T.c156_50 T.c156_115 T.c156_155 T.c156_156 T.parts22 T.make22 T.iv22 T.up22 T.fr22 T.nil22
attribute [go_sem] T.lz22 T.lv22 T.ln22 T.rows70 T.makes70 T.iv70 T.up70 T.fr70 T.nil70 T.lz70 T.lv70 T.ln70
attribute [go_sem] T.parts72 T.make72 T.iv72 T.up72 T.fr72 T.nil72 T.lz72 T.lv72 T.ln72 T.parts114 T.make114 T.iv114
attribute [go_sem] T.up114 T.fr114 T.nil114 T.lz114 T.lv114 T.ln114 T.parts116 T.make116 T.iv116 T.up116 T.fr116 T.nil116
attribute [go_sem] T.lz116 T.lv116 T.ln116 T.rows126 T.makes126 T.nil126 T.lz126 T.lv126 T.ln126 T.parts127 T.make127 T.iv127
attribute [go_sem] T.up127 T.fr127 T.nil127 T.lz127 T.lv127 T.ln127 T.rows128 T.makes128 T.nil128 T.lz128 T.lv128 T.ln128
attribute [go_sem] T.rows129 T.makes129 T.nil129 T.lz129 T.lv129 T.ln129 T.rows142 T.makes142 T.nil142 T.lz142 T.lv142 T.ln142
attribute [go_sem] T.parts143 T.make143 T.iv143 T.up143 T.fr143 T.nil143 T.lz143 T.lv143 T.ln143 T.rows147 T.makes147 T.iv147
attribute [go_sem] T.up147 T.fr147 T.nil147 T.lz147 T.lv147 T.ln147 T.parts191 T.make191 T.iv191 T.up191 T.fr191 T.nil191
attribute [go_sem] T.lz191 T.lv191 T.ln191 T.b24_ T.b24_0_1 T.b55_ T.b55_0_1 T.b55_1 T.b107_0_1_2_3 T.b107_0_3 T.b110_0_1 T.b110_0_1_2_3
attribute [go_sem] T.b110_2 T.b121_0 T.b131_0 T.b193_
end Go.Abs
