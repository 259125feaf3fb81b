/- The library's sort and binary search at this dump, laid by the shelf's tool in plain words. No condition. -/
import Derived.Shelf.SlLaysM
import Derived.Shelf.SlLaysN
import Derived.Shelf.SortM.Plain
import Derived.Shelf.SortM.SortNone
import Derived.Shelf.SlicesG.SearchI
import Derived.Shelf.SlicesG.Clone
import Derived.Test.YtigmncogjbbmhaaProg
namespace Go.Proofs
open Go.Shelf
def Try.sortM_ren : Go.Shelf.Ren := ⟨fun | 5 => 59 | 8 => 87 | 7 => 86 | 19 => 115 | 20 => 116 | 10 => 107 | 11 => 108 | 12 => 109 | 13 => 110 | 14 => 111 | 15 => 112 | 16 => 90 | 17 => 113 | 18 => 114 | 30 => 125 | 31 => 126 | 32 => 127 | 33 => 128 | 34 => 129 | 35 => 117 | 40 => 134 | n => n, fun | 23 => 24 | 25 => 2 | 3 => 3 | 32 => 109 | 22 => 24 | 0 => 0 | 44 => 106 | 46 => 26 | 4 => 4 | 36 => 171 | 35 => 170 | 41 => 111 | 5 => 5 | 9 => 9 | 53 => 194 | 57 => 197 | 63 => 206 | 64 => 207 | n => n, fun | n => n⟩
theorem Try.sortM : Go.Proofs.SlLaysM.n5 Try.prog Try.sortM_ren := {
  mixed := by kernel_rfl
  f5 := ⟨Try.f59.name, by decide, Try.func59.trans (congrArg some (by kernel_rfl))⟩
  f7 := ⟨Try.f86.name, by decide, Try.func86.trans (congrArg some (by kernel_rfl))⟩
  f8 := Try.func87.trans (congrArg some (by kernel_rfl))
  f10 := ⟨Try.f107.name, by decide, Try.func107.trans (congrArg some (by kernel_rfl))⟩
  f11 := ⟨Try.f108.name, by decide, Try.func108.trans (congrArg some (by kernel_rfl))⟩
  f12 := ⟨Try.f109.name, by decide, Try.func109.trans (congrArg some (by kernel_rfl))⟩
  f13 := ⟨Try.f110.name, by decide, Try.func110.trans (congrArg some (by kernel_rfl))⟩
  f14 := ⟨Try.f111.name, by decide, Try.func111.trans (congrArg some (by kernel_rfl))⟩
  f15 := ⟨Try.f112.name, by decide, Try.func112.trans (congrArg some (by kernel_rfl))⟩
  f16 := ⟨Try.f90.name, by decide, Try.func90.trans (congrArg some (by kernel_rfl))⟩
  f17 := ⟨Try.f113.name, by decide, Try.func113.trans (congrArg some (by kernel_rfl))⟩
  f18 := ⟨Try.f114.name, by decide, Try.func114.trans (congrArg some (by kernel_rfl))⟩
  f19 := Try.func115.trans (congrArg some (by kernel_rfl))
  f20 := Try.func116.trans (congrArg some (by kernel_rfl))
  f30 := ⟨Try.f125.name, by decide, Try.func125.trans (congrArg some (by kernel_rfl))⟩
  f31 := Try.func126.trans (congrArg some (by kernel_rfl))
  f32 := Try.func127.trans (congrArg some (by kernel_rfl))
  f33 := ⟨Try.f128.name, by decide, Try.func128.trans (congrArg some (by kernel_rfl))⟩
  f34 := ⟨Try.f129.name, by decide, Try.func129.trans (congrArg some (by kernel_rfl))⟩
  f35 := ⟨Try.f117.name, by decide, Try.func117.trans (congrArg some (by kernel_rfl))⟩
  f40 := ⟨Try.f134.name, by decide, Try.func134.trans (congrArg some (by kernel_rfl))⟩
  t0 := Try.underlying0
  a0 := Try.isAgg0
  z0 := Try.sizeOf0
  v0 := Try.zeroValue0
  t3 := Try.underlying3
  a3 := Try.isAgg3
  z3 := Try.sizeOf3
  v3 := Try.zeroValue3
  t4 := Try.underlying4
  a4 := Try.isAgg4
  z4 := Try.sizeOf4
  v4 := Try.zeroValue4
  t5 := Try.underlying5
  a5 := Try.isAgg5
  z5 := Try.sizeOf5
  v5 := Try.zeroValue5
  t9 := Try.underlying9
  a9 := Try.isAgg9
  z9 := Try.sizeOf9
  v9 := Try.zeroValue9
  t22 := Try.underlying24
  a22 := Try.isAgg24
  z22 := Try.sizeOf24
  v22 := Try.zeroValue24
  t23 := Try.underlying24
  a23 := Try.isAgg24
  z23 := Try.sizeOf24
  v23 := Try.zeroValue24
  t25 := Try.underlying2
  a25 := Try.isAgg2
  z25 := Try.sizeOf2
  v25 := Try.zeroValue2
  t32 := Try.underlying109
  a32 := Try.isAgg109
  z32 := Try.sizeOf109
  v32 := Try.zeroValue109
  t35 := Try.underlying170
  a35 := Try.isAgg170
  z35 := Try.sizeOf170
  v35 := Try.zeroValue170
  t36 := Try.underlying171
  a36 := Try.isAgg171
  z36 := Try.sizeOf171
  v36 := Try.zeroValue171
  t41 := Try.underlying111
  a41 := Try.isAgg111
  z41 := Try.sizeOf111
  v41 := Try.zeroValue111
  t44 := Try.underlying106
  a44 := Try.isAgg106
  z44 := Try.sizeOf106
  v44 := Try.zeroValue106
  t46 := Try.underlying26
  a46 := Try.isAgg26
  z46 := Try.sizeOf26
  v46 := Try.zeroValue26
  t53 := Try.underlying194
  a53 := Try.isAgg194
  z53 := Try.sizeOf194
  v53 := Try.zeroValue194
  t57 := Try.underlying197
  a57 := Try.isAgg197
  z57 := Try.sizeOf197
  v57 := Try.zeroValue197
  t63 := Try.underlying206
  a63 := Try.isAgg206
  z63 := Try.sizeOf206
  v63 := Try.zeroValue206
  t64 := Try.underlying207
  a64 := Try.isAgg207
  z64 := Try.sizeOf207
  v64 := Try.zeroValue207 }
def Try.searchN_ren : Go.Shelf.Ren := ⟨fun | 49 => 66 | 59 => 90 | 60 => 91 | 68 => 117 | n => n, fun | 22 => 24 | 23 => 2 | 3 => 3 | 4 => 4 | 51 => 109 | 0 => 0 | n => n, fun | n => n⟩
theorem Try.searchN : Go.Proofs.SlLaysN.n49 Try.prog Try.searchN_ren := {
  mixed := by kernel_rfl
  f49 := ⟨Try.f66.name, by decide, Try.func66.trans (congrArg some (by kernel_rfl))⟩
  f59 := ⟨Try.f90.name, by decide, Try.func90.trans (congrArg some (by kernel_rfl))⟩
  f60 := ⟨Try.f91.name, by decide, Try.func91.trans (congrArg some (by kernel_rfl))⟩
  f68 := ⟨Try.f117.name, by decide, Try.func117.trans (congrArg some (by kernel_rfl))⟩
  t0 := Try.underlying0
  a0 := Try.isAgg0
  z0 := Try.sizeOf0
  v0 := Try.zeroValue0
  t3 := Try.underlying3
  a3 := Try.isAgg3
  z3 := Try.sizeOf3
  v3 := Try.zeroValue3
  t4 := Try.underlying4
  a4 := Try.isAgg4
  z4 := Try.sizeOf4
  v4 := Try.zeroValue4
  t22 := Try.underlying24
  a22 := Try.isAgg24
  z22 := Try.sizeOf24
  v22 := Try.zeroValue24
  t23 := Try.underlying2
  a23 := Try.isAgg2
  z23 := Try.sizeOf2
  v23 := Try.zeroValue2
  t51 := Try.underlying109
  a51 := Try.isAgg109
  z51 := Try.sizeOf109
  v51 := Try.zeroValue109 }
end Go.Proofs
