/- Contracts of Go's library (strings.Join, utf8.ValidString) at this seat's dump, laid in plain words by the kit's shelf. Conditions: those that the contracts name. -/
import Derived.Shelf.Strings.OnBuilder
import Derived.Shelf.Unicode.ValidAny
import Derived.Test.YtkkjebjlgcggcaaDoorProg
namespace Go.Proofs.YtkkjebjlgcggcaaDoor
open Go.Shelf Go.Proofs
def Tryd.lays156_ren : Go.Shelf.Ren := ⟨fun | 156 => 38 | 165 => 58 | 166 => 59 | 169 => 60 | 240 => 70 | 241 => 71 | 276 => 77 | 277 => 78 | n => n, fun | 31 => 73 | 9 => 9 | 3 => 3 | 4 => 4 | 0 => 0 | 20 => 20 | 72 => 101 | 76 => 105 | 70 => 98 | 37 => 99 | 75 => 104 | 127 => 122 | 164 => 126 | 5 => 5 | 80 => 49 | n => n, fun | n => n⟩
theorem Tryd.lays156 : Go.Proofs.Lays.n156 Tryd.prog Tryd.lays156_ren := {
 mixed := by kernel_rfl
 f156 := Tryd.func38.trans (congrArg some (by kernel_rfl))
 f165 := Tryd.func58.trans (congrArg some (by kernel_rfl))
 f166 := Tryd.func59.trans (congrArg some (by kernel_rfl))
 f169 := Tryd.func60.trans (congrArg some (by kernel_rfl))
 f240 := Tryd.func70.trans (congrArg some (by kernel_rfl))
 f241 := Tryd.func71.trans (congrArg some (by kernel_rfl))
 f276 := Tryd.func77.trans (congrArg some (by kernel_rfl))
 f277 := Tryd.func78.trans (congrArg some (by kernel_rfl))
 t0 := Tryd.underlying0
 a0 := Tryd.isAgg0
 z0 := Tryd.sizeOf0
 v0 := Tryd.zeroValue0
 t3 := Tryd.underlying3
 a3 := Tryd.isAgg3
 z3 := Tryd.sizeOf3
 v3 := Tryd.zeroValue3
 t4 := Tryd.underlying4
 a4 := Tryd.isAgg4
 z4 := Tryd.sizeOf4
 v4 := Tryd.zeroValue4
 t9 := Tryd.underlying9
 a9 := Tryd.isAgg9
 z9 := Tryd.sizeOf9
 v9 := Tryd.zeroValue9
 t20 := Tryd.underlying20
 a20 := Tryd.isAgg20
 z20 := Tryd.sizeOf20
 v20 := Tryd.zeroValue20
 t31 := Tryd.underlying73
 a31 := Tryd.isAgg73
 z31 := Tryd.sizeOf73
 v31 := Tryd.zeroValue73
 t37 := Tryd.underlying99
 a37 := Tryd.isAgg99
 z37 := Tryd.sizeOf99
 v37 := Tryd.zeroValue99
 t70 := Tryd.underlying98
 a70 := Tryd.isAgg98
 z70 := Tryd.sizeOf98
 v70 := Tryd.zeroValue98
 t72 := Tryd.underlying101
 a72 := Tryd.isAgg101
 z72 := Tryd.sizeOf101
 v72 := Tryd.zeroValue101
 t75 := Tryd.underlying104
 a75 := Tryd.isAgg104
 z75 := Tryd.sizeOf104
 v75 := Tryd.zeroValue104
 t76 := Tryd.underlying105
 a76 := Tryd.isAgg105
 z76 := Tryd.sizeOf105
 v76 := Tryd.zeroValue105
 t127 := Tryd.underlying122
 a127 := Tryd.isAgg122
 z127 := Tryd.sizeOf122
 v127 := Tryd.zeroValue122
 t164 := Tryd.underlying126
 a164 := Tryd.isAgg126
 z164 := Tryd.sizeOf126
 v164 := Tryd.zeroValue126 }
theorem Tryd.Builder_Extra_156 : Builder.Extra Tryd.prog Tryd.lays156_ren := {
 sizeBuilder := by kernel_rfl
 liesBuilder := by kernel_rfl
 t5 := Tryd.underlying5
 a5 := Tryd.isAgg5
 z5 := Tryd.sizeOf5
 v5 := Tryd.zeroValue5
 infoByte := by kernel_rfl
 cellsByte := by kernel_rfl
 sizeByte := by kernel_rfl
 neB5 := by decide }
open Go.RowKit in
/-- No element: the empty string; the world is as it was. (Whatever the slice's address and capacity: a nil slice too.) (LAID: no walk: one application.) -/
theorem Tryd.strings_Join_none (a : Option Addr) (c : Nat) (sep : ByteArray) (w : World) :
  Calls Tryd.prog 38 #[.slice a 0 c, .string sep] w fun e w' => e = .returned (.string ⟨#[]⟩) ∧ w' = w := Any.strings_Join_none Tryd.lays156 Tryd.Builder_Extra_156 a c sep w
open Go.RowKit in
/-- strings.Join: "Join concatenates the elements of its first argument to create a single string. The separator string sep is placed between elements in the resulting string.": HOWEVER MANY ELEMENTS. Below the heap's end the world is as it was. (LAID: no walk: one application.) -/
theorem Tryd.strings_Join (bk o c : Nat) (xs : List ByteArray) (sep : ByteArray) (w : World) (hcells : ∀ (j : Nat) x, xs[j]? = some x → w.cell? ⟨bk, o + j, none⟩ = some (.string x)) (hbk : bk < w.heap.size) (hN : xs.length ≤ 140737488355328) (hcap : xs.length ≤ c) (hlen : (Lib.join (xs.map (·.data.toList)) sep.data.toList).length ≤ 140737488355328) :
  Calls Tryd.prog 38 #[.slice (some ⟨bk, o, none⟩) xs.length c, .string sep] w fun e w' => e = .returned (.string ⟨(Lib.join (xs.map (·.data.toList)) sep.data.toList).toArray⟩) ∧ Below w.heap.size w w' := Any.strings_Join Tryd.lays156 Tryd.Builder_Extra_156 bk o c xs sep w hcells hbk hN hcap hlen
def Tryd.lays196_ren : Go.Shelf.Ren := ⟨fun | 196 => 72 | 259 => 79 | n => n, fun | 9 => 9 | 4 => 4 | 3 => 3 | 5 => 5 | 12 => 12 | 119 => 130 | 0 => 0 | 46 => 134 | 139 => 133 | 138 => 132 | 53 => 136 | n => n, fun | 3 => 0 | 4 => 1 | n => n⟩
theorem Tryd.lays196 : Go.Proofs.Lays.n196 Tryd.prog Tryd.lays196_ren := {
 mixed := by kernel_rfl
 f196 := Tryd.func72.trans (congrArg some (by kernel_rfl))
 f259 := Tryd.func79.trans (congrArg some (by kernel_rfl))
 t0 := Tryd.underlying0
 a0 := Tryd.isAgg0
 z0 := Tryd.sizeOf0
 v0 := Tryd.zeroValue0
 t3 := Tryd.underlying3
 a3 := Tryd.isAgg3
 z3 := Tryd.sizeOf3
 v3 := Tryd.zeroValue3
 t4 := Tryd.underlying4
 a4 := Tryd.isAgg4
 z4 := Tryd.sizeOf4
 v4 := Tryd.zeroValue4
 t5 := Tryd.underlying5
 a5 := Tryd.isAgg5
 z5 := Tryd.sizeOf5
 v5 := Tryd.zeroValue5
 t9 := Tryd.underlying9
 a9 := Tryd.isAgg9
 z9 := Tryd.sizeOf9
 v9 := Tryd.zeroValue9
 t12 := Tryd.underlying12
 a12 := Tryd.isAgg12
 z12 := Tryd.sizeOf12
 v12 := Tryd.zeroValue12
 t46 := Tryd.underlying134
 a46 := Tryd.isAgg134
 z46 := Tryd.sizeOf134
 v46 := Tryd.zeroValue134
 t53 := Tryd.underlying136
 a53 := Tryd.isAgg136
 z53 := Tryd.sizeOf136
 v53 := Tryd.zeroValue136
 t119 := Tryd.underlying130
 a119 := Tryd.isAgg130
 z119 := Tryd.sizeOf130
 t138 := Tryd.underlying132
 a138 := Tryd.isAgg132
 z138 := Tryd.sizeOf132
 v138 := Tryd.zeroValue132
 t139 := Tryd.underlying133
 a139 := Tryd.isAgg133
 z139 := Tryd.sizeOf133
 v139 := Tryd.zeroValue133
 g3 := by kernel_rfl
 g4 := by kernel_rfl }
end Go.Proofs.YtkkjebjlgcggcaaDoor
