import Derived.Test.YtpiiemneelkpkaaGreatDoorGsh
namespace Go.Proofs
open Go.Shelf
def Tryz.laysM145_ren : Go.Shelf.Ren := ⟨fun | 145 => 186 | 220 => 214 | 219 => 233 | 217 => 241 | 225 => 242 | 224 => 243 | 267 => 244 | 266 => 247 | 314 => 248 | n => n, fun | 9 => 9 | 4 => 4 | 59 => 149 | 3 => 3 | 5 => 5 | 46 => 72 | 146 => 194 | 51 => 184 | n => n, fun | 1 => 0 | n => n⟩
theorem Tryz.laysM145 : Go.Proofs.LaysM.n145 Tryz.prog Tryz.laysM145_ren := {
 mixed := by kernel_rfl
 f145 := Tryz.func186.trans (congrArg some (by kernel_rfl))
 f217 := Tryz.func241.trans (congrArg some (by kernel_rfl))
 f219 := Tryz.func233.trans (congrArg some (by kernel_rfl))
 f220 := Tryz.func214.trans (congrArg some (by kernel_rfl))
 f224 := Tryz.func243.trans (congrArg some (by kernel_rfl))
 f225 := Tryz.func242.trans (congrArg some (by kernel_rfl))
 f266 := Tryz.func247.trans (congrArg some (by kernel_rfl))
 f267 := Tryz.func244.trans (congrArg some (by kernel_rfl))
 f314 := Tryz.func248.trans (congrArg some (by kernel_rfl))
 t3 := Tryz.underlying3
 a3 := Tryz.isAgg3
 z3 := Tryz.sizeOf3
 v3 := Tryz.zeroValue3
 t4 := Tryz.underlying4
 a4 := Tryz.isAgg4
 z4 := Tryz.sizeOf4
 v4 := Tryz.zeroValue4
 t5 := Tryz.underlying5
 a5 := Tryz.isAgg5
 z5 := Tryz.sizeOf5
 v5 := Tryz.zeroValue5
 t9 := Tryz.underlying9
 a9 := Tryz.isAgg9
 z9 := Tryz.sizeOf9
 v9 := Tryz.zeroValue9
 t46 := Tryz.underlying72
 a46 := Tryz.isAgg72
 z46 := Tryz.sizeOf72
 v46 := Tryz.zeroValue72
 t51 := Tryz.underlying184
 a51 := Tryz.isAgg184
 z51 := Tryz.sizeOf184
 v51 := Tryz.zeroValue184
 t59 := Tryz.underlying149
 a59 := Tryz.isAgg149
 z59 := Tryz.sizeOf149
 v59 := Tryz.zeroValue149
 t146 := Tryz.underlying194
 a146 := Tryz.isAgg194
 z146 := Tryz.sizeOf194
 v146 := Tryz.zeroValue194
 g1 := by kernel_rfl
 i3 := by kernel_rfl
 i4 := by kernel_rfl
 i5 := by kernel_rfl
 i9 := by kernel_rfl
 i46 := by kernel_rfl
 i51 := by kernel_rfl
 i59 := by kernel_rfl
 i146 := by kernel_rfl
 m1 := by kernel_rfl
 s1_3 := fun w h => Go.Proofs.cell_of_shapedOpen_int (zero := #[.int .i64 0]) (t := 3) h (of_decide_eq_true (by kernel_rfl)) (by kernel_rfl) rfl (by kernel_rfl) (by kernel_rfl) Tryz.underlying3 }
end Go.Proofs
