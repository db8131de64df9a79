/- Contracts of Go's library (strings.Join, utf8.ValidString) at this seat's dump, laid in plain words by the kit's shelf. Conditions: those that the contracts name. -/
import Derived.Shelf.Strings.OnBuilder
import Derived.Shelf.Unicode.ValidAny
import Derived.Test.YtjphmebhofkhcaaDoorProg
namespace Go.Proofs.YtjphmebhofkhcaaDoor
open Go.Shelf Go.Proofs
def Tryd.lays156_ren : Go.Shelf.Ren := ⟨fun | 156 => 45 | 165 => 72 | 166 => 73 | 169 => 74 | 240 => 92 | 241 => 93 | 276 => 105 | 277 => 106 | n => n, fun | 31 => 81 | 9 => 9 | 3 => 3 | 4 => 4 | 0 => 0 | 20 => 20 | 72 => 116 | 76 => 120 | 70 => 113 | 37 => 114 | 75 => 119 | 127 => 134 | 164 => 149 | 5 => 5 | 80 => 41 | n => n, fun | n => n⟩
theorem Tryd.lays156 : Go.Proofs.Lays.n156 Tryd.prog Tryd.lays156_ren := {
 mixed := by kernel_rfl
 f156 := Tryd.func45.trans (congrArg some (by kernel_rfl))
 f165 := Tryd.func72.trans (congrArg some (by kernel_rfl))
 f166 := Tryd.func73.trans (congrArg some (by kernel_rfl))
 f169 := Tryd.func74.trans (congrArg some (by kernel_rfl))
 f240 := Tryd.func92.trans (congrArg some (by kernel_rfl))
 f241 := Tryd.func93.trans (congrArg some (by kernel_rfl))
 f276 := Tryd.func105.trans (congrArg some (by kernel_rfl))
 f277 := Tryd.func106.trans (congrArg some (by kernel_rfl))
 t0 := Tryd.underlying0
 a0 := Tryd.isAgg0
 z0 := Tryd.sizeOf0
 v0 := Tryd.zeroValue0
 t3 := Tryd.underlying3
 a3 := Tryd.isAgg3
 z3 := Tryd.sizeOf3
 v3 := Tryd.zeroValue3
 t4 := Tryd.underlying4
 a4 := Tryd.isAgg4
 z4 := Tryd.sizeOf4
 v4 := Tryd.zeroValue4
 t9 := Tryd.underlying9
 a9 := Tryd.isAgg9
 z9 := Tryd.sizeOf9
 v9 := Tryd.zeroValue9
 t20 := Tryd.underlying20
 a20 := Tryd.isAgg20
 z20 := Tryd.sizeOf20
 v20 := Tryd.zeroValue20
 t31 := Tryd.underlying81
 a31 := Tryd.isAgg81
 z31 := Tryd.sizeOf81
 v31 := Tryd.zeroValue81
 t37 := Tryd.underlying114
 a37 := Tryd.isAgg114
 z37 := Tryd.sizeOf114
 v37 := Tryd.zeroValue114
 t70 := Tryd.underlying113
 a70 := Tryd.isAgg113
 z70 := Tryd.sizeOf113
 v70 := Tryd.zeroValue113
 t72 := Tryd.underlying116
 a72 := Tryd.isAgg116
 z72 := Tryd.sizeOf116
 v72 := Tryd.zeroValue116
 t75 := Tryd.underlying119
 a75 := Tryd.isAgg119
 z75 := Tryd.sizeOf119
 v75 := Tryd.zeroValue119
 t76 := Tryd.underlying120
 a76 := Tryd.isAgg120
 z76 := Tryd.sizeOf120
 v76 := Tryd.zeroValue120
 t127 := Tryd.underlying134
 a127 := Tryd.isAgg134
 z127 := Tryd.sizeOf134
 v127 := Tryd.zeroValue134
 t164 := Tryd.underlying149
 a164 := Tryd.isAgg149
 z164 := Tryd.sizeOf149
 v164 := Tryd.zeroValue149 }
theorem Tryd.Builder_Extra_156 : Builder.Extra Tryd.prog Tryd.lays156_ren := {
 sizeBuilder := by kernel_rfl
 liesBuilder := by kernel_rfl
 t5 := Tryd.underlying5
 a5 := Tryd.isAgg5
 z5 := Tryd.sizeOf5
 v5 := Tryd.zeroValue5
 infoByte := by kernel_rfl
 cellsByte := by kernel_rfl
 sizeByte := by kernel_rfl
 neB5 := by decide }
open Go.RowKit in
/-- No element: the empty string; the world is as it was. (Whatever the slice's address and capacity: a nil slice too.) (LAID: no walk: one application.) -/
theorem Tryd.strings_Join_none (a : Option Addr) (c : Nat) (sep : ByteArray) (w : World) :
  Calls Tryd.prog 45 #[.slice a 0 c, .string sep] w fun e w' => e = .returned (.string ⟨#[]⟩) ∧ w' = w := Any.strings_Join_none Tryd.lays156 Tryd.Builder_Extra_156 a c sep w
open Go.RowKit in
/-- strings.Join: "Join concatenates the elements of its first argument to create a single string. The separator string sep is placed between elements in the resulting string.": HOWEVER MANY ELEMENTS. Below the heap's end the world is as it was. (LAID: no walk: one application.) -/
theorem Tryd.strings_Join (bk o c : Nat) (xs : List ByteArray) (sep : ByteArray) (w : World) (hcells : ∀ (j : Nat) x, xs[j]? = some x → w.cell? ⟨bk, o + j, none⟩ = some (.string x)) (hbk : bk < w.heap.size) (hN : xs.length ≤ 140737488355328) (hcap : xs.length ≤ c) (hlen : (Lib.join (xs.map (·.data.toList)) sep.data.toList).length ≤ 140737488355328) :
  Calls Tryd.prog 45 #[.slice (some ⟨bk, o, none⟩) xs.length c, .string sep] w fun e w' => e = .returned (.string ⟨(Lib.join (xs.map (·.data.toList)) sep.data.toList).toArray⟩) ∧ Below w.heap.size w w' := Any.strings_Join Tryd.lays156 Tryd.Builder_Extra_156 bk o c xs sep w hcells hbk hN hcap hlen
def Tryd.lays196_ren : Go.Shelf.Ren := ⟨fun | 196 => 83 | 259 => 100 | n => n, fun | 9 => 9 | 4 => 4 | 3 => 3 | 5 => 5 | 12 => 12 | 119 => 143 | 0 => 0 | 46 => 135 | 139 => 146 | 138 => 145 | 53 => 154 | n => n, fun | 3 => 0 | 4 => 1 | n => n⟩
theorem Tryd.lays196 : Go.Proofs.Lays.n196 Tryd.prog Tryd.lays196_ren := {
 mixed := by kernel_rfl
 f196 := Tryd.func83.trans (congrArg some (by kernel_rfl))
 f259 := Tryd.func100.trans (congrArg some (by kernel_rfl))
 t0 := Tryd.underlying0
 a0 := Tryd.isAgg0
 z0 := Tryd.sizeOf0
 v0 := Tryd.zeroValue0
 t3 := Tryd.underlying3
 a3 := Tryd.isAgg3
 z3 := Tryd.sizeOf3
 v3 := Tryd.zeroValue3
 t4 := Tryd.underlying4
 a4 := Tryd.isAgg4
 z4 := Tryd.sizeOf4
 v4 := Tryd.zeroValue4
 t5 := Tryd.underlying5
 a5 := Tryd.isAgg5
 z5 := Tryd.sizeOf5
 v5 := Tryd.zeroValue5
 t9 := Tryd.underlying9
 a9 := Tryd.isAgg9
 z9 := Tryd.sizeOf9
 v9 := Tryd.zeroValue9
 t12 := Tryd.underlying12
 a12 := Tryd.isAgg12
 z12 := Tryd.sizeOf12
 v12 := Tryd.zeroValue12
 t46 := Tryd.underlying135
 a46 := Tryd.isAgg135
 z46 := Tryd.sizeOf135
 v46 := Tryd.zeroValue135
 t53 := Tryd.underlying154
 a53 := Tryd.isAgg154
 z53 := Tryd.sizeOf154
 v53 := Tryd.zeroValue154
 t119 := Tryd.underlying143
 a119 := Tryd.isAgg143
 z119 := Tryd.sizeOf143
 t138 := Tryd.underlying145
 a138 := Tryd.isAgg145
 z138 := Tryd.sizeOf145
 v138 := Tryd.zeroValue145
 t139 := Tryd.underlying146
 a139 := Tryd.isAgg146
 z139 := Tryd.sizeOf146
 v139 := Tryd.zeroValue146
 g3 := by kernel_rfl
 g4 := by kernel_rfl }
end Go.Proofs.YtjphmebhofkhcaaDoor
