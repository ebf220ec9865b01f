/- Texts of this proof, one behind the other. What is proved, and on which conditions, stands ahead of each. -/
import Derived.Shelf.SortM.Plain
import Derived.Shelf.SortM.SortNone
import Derived.Ground.SlgmProg
import Derived.Shelf.Slices.CompactI
import Derived.Ground.Names2Prog
import Derived.Shelf.Spec.SlicesGrow
import Derived.Ground.Names8Prog
import Derived.Shelf.SlGeneric
import Derived.Test.YthidhohdcjojhaaGreatDoorProg

namespace Go.Proofs
open Go.Shelf
def Tryz.sortI_ren : Go.Shelf.Ren := ⟨fun | 5 => 75 | 8 => 107 | 7 => 106 | 19 => 143 | 20 => 144 | 10 => 134 | 11 => 135 | 12 => 136 | 13 => 137 | 14 => 138 | 15 => 139 | 16 => 140 | 17 => 141 | 18 => 142 | 30 => 185 | 31 => 186 | 32 => 187 | 33 => 188 | 34 => 189 | 35 => 190 | 40 => 217 | n => n, fun | 23 => 54 | 25 => 3 | 3 => 3 | 32 => 182 | 22 => 54 | 0 => 0 | 44 => 230 | 46 => 181 | 4 => 4 | 36 => 223 | 35 => 222 | 41 => 227 | 5 => 5 | 9 => 9 | 53 => 265 | 57 => 269 | 63 => 296 | 64 => 256 | n => n, fun | n => n⟩
theorem Tryz.sortI : Go.Proofs.SlLaysM.n5 Tryz.prog Tryz.sortI_ren := {
 mixed := by kernel_rfl
 f5 := ⟨Tryz.f75.name, by decide, Tryz.func75.trans (congrArg some (by kernel_rfl))⟩
 f7 := ⟨Tryz.f106.name, by decide, Tryz.func106.trans (congrArg some (by kernel_rfl))⟩
 f8 := Tryz.func107.trans (congrArg some (by kernel_rfl))
 f10 := ⟨Tryz.f134.name, by decide, Tryz.func134.trans (congrArg some (by kernel_rfl))⟩
 f11 := ⟨Tryz.f135.name, by decide, Tryz.func135.trans (congrArg some (by kernel_rfl))⟩
 f12 := ⟨Tryz.f136.name, by decide, Tryz.func136.trans (congrArg some (by kernel_rfl))⟩
 f13 := ⟨Tryz.f137.name, by decide, Tryz.func137.trans (congrArg some (by kernel_rfl))⟩
 f14 := ⟨Tryz.f138.name, by decide, Tryz.func138.trans (congrArg some (by kernel_rfl))⟩
 f15 := ⟨Tryz.f139.name, by decide, Tryz.func139.trans (congrArg some (by kernel_rfl))⟩
 f16 := ⟨Tryz.f140.name, by decide, Tryz.func140.trans (congrArg some (by kernel_rfl))⟩
 f17 := ⟨Tryz.f141.name, by decide, Tryz.func141.trans (congrArg some (by kernel_rfl))⟩
 f18 := ⟨Tryz.f142.name, by decide, Tryz.func142.trans (congrArg some (by kernel_rfl))⟩
 f19 := Tryz.func143.trans (congrArg some (by kernel_rfl))
 f20 := Tryz.func144.trans (congrArg some (by kernel_rfl))
 f30 := ⟨Tryz.f185.name, by decide, Tryz.func185.trans (congrArg some (by kernel_rfl))⟩
 f31 := Tryz.func186.trans (congrArg some (by kernel_rfl))
 f32 := Tryz.func187.trans (congrArg some (by kernel_rfl))
 f33 := ⟨Tryz.f188.name, by decide, Tryz.func188.trans (congrArg some (by kernel_rfl))⟩
 f34 := ⟨Tryz.f189.name, by decide, Tryz.func189.trans (congrArg some (by kernel_rfl))⟩
 f35 := ⟨Tryz.f190.name, by decide, Tryz.func190.trans (congrArg some (by kernel_rfl))⟩
 f40 := ⟨Tryz.f217.name, by decide, Tryz.func217.trans (congrArg some (by kernel_rfl))⟩
 t0 := Tryz.underlying0
 a0 := Tryz.isAgg0
 z0 := Tryz.sizeOf0
 v0 := Tryz.zeroValue0
 t3 := Tryz.underlying3
 a3 := Tryz.isAgg3
 z3 := Tryz.sizeOf3
 v3 := Tryz.zeroValue3
 t4 := Tryz.underlying4
 a4 := Tryz.isAgg4
 z4 := Tryz.sizeOf4
 v4 := Tryz.zeroValue4
 t5 := Tryz.underlying5
 a5 := Tryz.isAgg5
 z5 := Tryz.sizeOf5
 v5 := Tryz.zeroValue5
 t9 := Tryz.underlying9
 a9 := Tryz.isAgg9
 z9 := Tryz.sizeOf9
 v9 := Tryz.zeroValue9
 t22 := Tryz.underlying54
 a22 := Tryz.isAgg54
 z22 := Tryz.sizeOf54
 v22 := Tryz.zeroValue54
 t23 := Tryz.underlying54
 a23 := Tryz.isAgg54
 z23 := Tryz.sizeOf54
 v23 := Tryz.zeroValue54
 t25 := Tryz.underlying3
 a25 := Tryz.isAgg3
 z25 := Tryz.sizeOf3
 v25 := Tryz.zeroValue3
 t32 := Tryz.underlying182
 a32 := Tryz.isAgg182
 z32 := Tryz.sizeOf182
 v32 := Tryz.zeroValue182
 t35 := Tryz.underlying222
 a35 := Tryz.isAgg222
 z35 := Tryz.sizeOf222
 v35 := Tryz.zeroValue222
 t36 := Tryz.underlying223
 a36 := Tryz.isAgg223
 z36 := Tryz.sizeOf223
 v36 := Tryz.zeroValue223
 t41 := Tryz.underlying227
 a41 := Tryz.isAgg227
 z41 := Tryz.sizeOf227
 v41 := Tryz.zeroValue227
 t44 := Tryz.underlying230
 a44 := Tryz.isAgg230
 z44 := Tryz.sizeOf230
 v44 := Tryz.zeroValue230
 t46 := Tryz.underlying181
 a46 := Tryz.isAgg181
 z46 := Tryz.sizeOf181
 v46 := Tryz.zeroValue181
 t53 := Tryz.underlying265
 a53 := Tryz.isAgg265
 z53 := Tryz.sizeOf265
 v53 := Tryz.zeroValue265
 t57 := Tryz.underlying269
 a57 := Tryz.isAgg269
 z57 := Tryz.sizeOf269
 v57 := Tryz.zeroValue269
 t63 := Tryz.underlying296
 a63 := Tryz.isAgg296
 z63 := Tryz.sizeOf296
 v63 := Tryz.zeroValue296
 t64 := Tryz.underlying256
 a64 := Tryz.isAgg256
 z64 := Tryz.sizeOf256
 v64 := Tryz.zeroValue256 }
def Tryz.compactI_ren : Go.Shelf.Ren := ⟨fun | 20 => 45 | n => n, fun | 22 => 54 | 3 => 3 | 4 => 4 | 0 => 0 | n => n, fun | n => n⟩
theorem Tryz.compactI : Go.Proofs.Lays2.n20 Tryz.prog Tryz.compactI_ren := {
 mixed := by kernel_rfl
 f20 := Tryz.func45.trans (congrArg some (by kernel_rfl))
 t0 := Tryz.underlying0
 a0 := Tryz.isAgg0
 z0 := Tryz.sizeOf0
 v0 := Tryz.zeroValue0
 t3 := Tryz.underlying3
 a3 := Tryz.isAgg3
 z3 := Tryz.sizeOf3
 v3 := Tryz.zeroValue3
 t4 := Tryz.underlying4
 a4 := Tryz.isAgg4
 z4 := Tryz.sizeOf4
 v4 := Tryz.zeroValue4
 t22 := Tryz.underlying54
 a22 := Tryz.isAgg54
 z22 := Tryz.sizeOf54
 v22 := Tryz.zeroValue54
 i3 := by kernel_rfl }
end Go.Proofs
