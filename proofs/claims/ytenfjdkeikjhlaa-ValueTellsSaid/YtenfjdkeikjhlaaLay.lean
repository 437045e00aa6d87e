/-
  The layings of slices.Sort and slices.Compact at this program.
-/
import Derived.Test.YtenfjdkeikjhlaaProg
import Derived.Shelf.Slices.In.SortAlone
import Derived.Shelf.Slices.In.SortNone
import Derived.Shelf.Slices.CompactI
import Derived.KernelRfl
set_option autoImplicit false
namespace Go.Proofs.Ytenfjdkeikjhlaa
open Go.Shelf Go.RowKit
def lays189_ren : Ren := ⟨fun | 189 => 35 | 125 => 51 | 257 => 50 | 128 => 61 | 129 => 62 | 294 => 52 | 295 => 53 | 296 => 54 | 297 => 55 | 298 => 56 | 299 => 57 | 216 => 58 | 300 => 59 | 301 => 60 | 328 => 63 | 329 => 64 | 330 => 65 | 331 => 66 | 332 => 67 | 215 => 68 | 343 => 69 | n => n, fun | 28 => 28 | 3 => 3 | 46 => 64 | 0 => 0 | 51 => 74 | 53 => 76 | 4 => 4 | 183 => 67 | 182 => 66 | 131 => 71 | 5 => 5 | 9 => 9 | 218 => 77 | 222 => 81 | 228 => 84 | 229 => 85 | n => n, fun n => n⟩
theorem lays189 : Lays.n189 Try.prog lays189_ren := {
    mixed := (by kernel_rfl)
    f125 := (by kernel_rfl)
    f128 := (by kernel_rfl)
    f129 := (by kernel_rfl)
    f189 := (by kernel_rfl)
    f215 := (by kernel_rfl)
    f216 := (by kernel_rfl)
    f257 := (by kernel_rfl)
    f294 := (by kernel_rfl)
    f295 := (by kernel_rfl)
    f296 := (by kernel_rfl)
    f297 := (by kernel_rfl)
    f298 := (by kernel_rfl)
    f299 := (by kernel_rfl)
    f300 := (by kernel_rfl)
    f301 := (by kernel_rfl)
    f328 := (by kernel_rfl)
    f329 := (by kernel_rfl)
    f330 := (by kernel_rfl)
    f331 := (by kernel_rfl)
    f332 := (by kernel_rfl)
    f343 := (by kernel_rfl)
    t0 := (by kernel_rfl)
    a0 := Try.isAgg0
    z0 := Try.sizeOf0
    v0 := Try.zeroValue0
    t3 := (by kernel_rfl)
    a3 := Try.isAgg3
    z3 := Try.sizeOf3
    v3 := Try.zeroValue3
    t4 := (by kernel_rfl)
    a4 := Try.isAgg4
    z4 := Try.sizeOf4
    v4 := Try.zeroValue4
    t5 := (by kernel_rfl)
    a5 := Try.isAgg5
    z5 := Try.sizeOf5
    v5 := Try.zeroValue5
    t9 := (by kernel_rfl)
    a9 := Try.isAgg9
    z9 := Try.sizeOf9
    v9 := Try.zeroValue9
    t28 := (by kernel_rfl)
    a28 := Try.isAgg28
    z28 := Try.sizeOf28
    v28 := Try.zeroValue28
    t46 := (by kernel_rfl)
    a46 := Try.isAgg64
    z46 := Try.sizeOf64
    v46 := Try.zeroValue64
    t51 := (by kernel_rfl)
    a51 := Try.isAgg74
    z51 := Try.sizeOf74
    v51 := Try.zeroValue74
    t53 := (by kernel_rfl)
    a53 := Try.isAgg76
    z53 := Try.sizeOf76
    v53 := Try.zeroValue76
    t131 := (by kernel_rfl)
    a131 := Try.isAgg71
    z131 := Try.sizeOf71
    v131 := Try.zeroValue71
    t182 := (by kernel_rfl)
    a182 := Try.isAgg66
    z182 := Try.sizeOf66
    v182 := Try.zeroValue66
    t183 := (by kernel_rfl)
    a183 := Try.isAgg67
    z183 := Try.sizeOf67
    v183 := Try.zeroValue67
    t218 := (by kernel_rfl)
    a218 := Try.isAgg77
    z218 := Try.sizeOf77
    v218 := Try.zeroValue77
    t222 := (by kernel_rfl)
    a222 := Try.isAgg81
    z222 := Try.sizeOf81
    v222 := Try.zeroValue81
    t228 := (by kernel_rfl)
    a228 := Try.isAgg84
    z228 := Try.sizeOf84
    v228 := Try.zeroValue84
    t229 := (by kernel_rfl)
    a229 := Try.isAgg85
    z229 := Try.sizeOf85
    v229 := Try.zeroValue85 }
def lays20_ren : Ren := ⟨fun | 20 => 36 | n => n, fun | 22 => 28 | 3 => 3 | 4 => 4 | 0 => 0 | n => n, fun n => n⟩
theorem lays20 : Lays2.n20 Try.prog lays20_ren := {
    mixed := (by kernel_rfl)
    f20 := (by kernel_rfl)
    t0 := (by kernel_rfl)
    a0 := Try.isAgg0
    z0 := Try.sizeOf0
    v0 := Try.zeroValue0
    t3 := (by kernel_rfl)
    a3 := Try.isAgg3
    z3 := Try.sizeOf3
    v3 := Try.zeroValue3
    t4 := (by kernel_rfl)
    a4 := Try.isAgg4
    z4 := Try.sizeOf4
    v4 := Try.zeroValue4
    t22 := (by kernel_rfl)
    a22 := Try.isAgg28
    z22 := Try.sizeOf28
    v22 := Try.zeroValue28
    i3 := (by kernel_rfl) }
end Go.Proofs.Ytenfjdkeikjhlaa
