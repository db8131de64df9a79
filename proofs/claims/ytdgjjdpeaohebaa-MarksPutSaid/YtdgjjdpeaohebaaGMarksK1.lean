/- Marks: a row of sites of a call's own, before and behind the library's sort. No condition. -/
import Derived.Test.YtdgjjdpeaohebaaWMore
import Derived.WalkSpells
import Derived.Lib.Hide
import Derived.Shelf.SlSortCmp.WholeK
import Derived.Test.YtdgjjdpeaohebaaPMarksTakex0
namespace Go.Proofs.Ytdgjjdpeaohebaa.Mk
open Go.RowKit Go.Proofs.YtdgjjdpeaohebaaW.PrintWords Go.Proofs.YtdgjjdpeaohebaaW.PrintLast Go.Proofs.YtdgjjdpeaohebaaW.PrintMore Go.Proofs.Ytdgjjdpeaohebaa.PMarksTake
set_option linter.unusedVariables false
set_option linter.unusedSimpArgs false
abbrev kY := k38
abbrev SY := S38
instance : Inhabited SY := ⟨z38⟩
/-- A site's two cells. -/
def encY (y : SY) : List Value := [.int .i64 y.f0, .int .i64 y.f1]
theorem encY_len (y : SY) : (encY y).length = 2 := rfl
theorem encY_one (y : SY) : ∀ v ∈ encY y, v.oneCell' = true := by
 intro v hv
 simp [encY] at hv
 rcases hv with rfl | rfl <;> rfl
theorem flat_size (d : Array SY) : (Go.Sort.flatK encY 2 d).size = d.size * 2 := by simp [Go.Sort.flatK]
theorem flat_at {d : Array SY} {j i : Nat} {y : SY} (h : d.toList[j]? = some y) (hi : i < 2) : (Go.Sort.flatK encY 2 d).toList[j * 2 + i]? = (encY y)[i]? := by
 obtain ⟨hl, e⟩ := List.getElem?_eq_some_iff.1 h
 rw [Array.length_toList] at hl
 unfold Go.Sort.flatK
 simp only [Array.toList_map, Array.toList_range, List.getElem?_map]
 rw [List.getElem?_range (by omega)]
 simp only [Option.map_some]
 have e1 : (j * 2 + i) / 2 = j := by omega
 have e2 : (j * 2 + i) % 2 = i := by omega
 rw [e1, e2, getElem!_pos d j hl]
 have e3 : d[j] = y := by rw [← e, Array.getElem_toList]
 rw [e3, getElem!_pos (encY y) i (by rw [encY_len]; exact hi), List.getElem?_eq_getElem (by rw [encY_len]; exact hi)]
theorem flat_seg {d : Array SY} {j : Nat} {y : SY} (h : d.toList[j]? = some y) : ((Go.Sort.flatK encY 2 d).toList.drop (j * 2)).take 2 = encY y := by
 apply List.ext_getElem?
 intro i
 rw [List.getElem?_take]
 split
 ·rename_i hi
  rw [List.getElem?_drop, flat_at h hi]
 ·rename_i hi
  rw [List.getElem?_eq_none (by rw [encY_len]; omega)]
/-- What a row of sites of a call's own holds, in the sort's words. -/
theorem holds_own {w : World} {base : Nat} {ok : Nat → Prop} {g n cap : Nat} {ys : List SY} (h : Kd.R kY 38 w base ok (.slice (some ⟨g, 0, none⟩) n cap) ys) : Go.Sort.HoldsK encY 2 w g 0 ys.toArray ∧ g < w.heap.size ∧ n = ys.length := by
 have hn := (Kd.R_reads' h).1
 obtain ⟨_, inner, ⟨hl, ho⟩, hr⟩ := h
 rcases ho with ⟨hv, _⟩ | ⟨g', cap', cur, hv, hb, hh, hnc, hcm, hcs, ht⟩
 ·cases hv
 injection hv with ha _ hc
 injection ha with ha
 injection ha with ha
 subst ha; subst hc
 refine ⟨fun t ht2 => ?_, blk_lt hh, hn⟩
 rw [flat_size] at ht2
 simp only [List.size_toArray] at ht2
 refine ⟨?_, blk_frozen hh _⟩
 obtain ⟨y, hy⟩ : ∃ y, ys[t / 2]? = some y := ⟨_, List.getElem?_eq_getElem (by omega)⟩
 have hM := k38_openM (hr.2 (t / 2) y hy)
 have e1 : (inner.drop (t / 2 * 2)).take 2 = encY y := hM
 have e2 : inner[t]? = (encY y)[t % 2]? := by
  rw [← e1, List.getElem?_take, if_pos (by omega), List.getElem?_drop, show t / 2 * 2 + t % 2 = t by omega]
 have e3 : (Go.Sort.flatK encY 2 ys.toArray).toList[t]? = (encY y)[t % 2]? := by
  have := flat_at (d := ys.toArray) (j := t / 2) (i := t % 2) (y := y) (by simpa using hy) (by omega)
  rwa [show t / 2 * 2 + t % 2 = t by omega] at this
 rw [blk_cell hh, Nat.zero_add]
 have e4 : cur[t]? = inner[t]? := by
  rw [← ht, List.getElem?_take, if_pos (by have : kY.sz = 2 := rfl; rw [this]; omega), Array.getElem?_toList]
 rw [e4, e2, ← e3, getElem!_pos (Go.Sort.flatK encY 2 ys.toArray) t (by rw [flat_size]; simp; omega), Array.getElem?_toList, Array.getElem?_eq_getElem (by rw [flat_size]; simp; omega)]
 rfl
theorem heap_sorted (w : World) (g m : Nat) (d : Array SY) (os : Array Obj) (k : Nat) (hk : k < w.heap.size) : (sortWorldK encY 2 w g 0 m d os).heap[k]? = if g = k then (w.heap[k]?).map (Go.Sort.onCells (Go.Sort.putCells id 0 (Go.Sort.flatK encY 2 d))) else w.heap[k]? := by
 unfold sortWorldK Go.Sort.putRowK Go.Sort.putRow Go.Sort.mapBlock Go.Sort.grow Go.Sort.ahead
 dsimp only
 rw [Array.getElem?_append_left (by rw [Array.size_modify]; exact hk), Array.getElem?_modify]
theorem size_sorted (w : World) (g m : Nat) (d : Array SY) (os : Array Obj) : w.heap.size ≤ (sortWorldK encY 2 w g 0 m d os).heap.size := by
 unfold sortWorldK Go.Sort.putRowK Go.Sort.putRow Go.Sort.mapBlock Go.Sort.grow Go.Sort.ahead
 dsimp only
 rw [Array.size_append, Array.size_modify]
 omega
/-- Behind the sort the row is the call's own still, and holds what the sort has laid. -/
theorem own_sorted {w : World} {base : Nat} {ok : Nat → Prop} {g n cap : Nat} {ys : List SY} (h : Kd.R kY 38 w base ok (.slice (some ⟨g, 0, none⟩) n cap) ys) (m : Nat) (d : Array SY) (os : Array Obj) (hs : d.size = ys.length) :
  Kd.R kY 38 (sortWorldK encY 2 w g 0 m d os) base ok (.slice (some ⟨g, 0, none⟩) n cap) d.toList ∧ w.grownBy (sortWorldK encY 2 w g 0 m d os) (some g) := by
 have hn := (Kd.R_reads' h).1
 obtain ⟨hok, inner, ⟨hl, ho⟩, hr⟩ := h
 rcases ho with ⟨hv, _⟩ | ⟨g', cap', cur, hv, hb, hh, hnc, hcm, hcs, ht⟩
 ·cases hv
 injection hv with ha _ hc
 injection ha with ha
 injection ha with ha
 subst ha; subst hc
 have k2 : kY.sz = 2 := rfl
 rw [k2] at hcs
 have hd : d.toList.length = n := by rw [Array.length_toList, hs, hn]
 have hb2 := heap_sorted w g m d os g (blk_lt hh)
 rw [if_pos rfl, hh] at hb2
 simp only [Option.map_some, Go.Sort.onCells] at hb2
 have hsz : (Go.Sort.putCells id 0 (Go.Sort.flatK encY 2 d) cur).size = cap * 2 := by unfold Go.Sort.putCells; rw [Array.size_mapIdx, hcs]
 have htk : (Go.Sort.putCells id 0 (Go.Sort.flatK encY 2 d) cur).toList.take (n * 2) = (Go.Sort.flatK encY 2 d).toList := by
  apply List.ext_getElem?
  intro t
  rw [List.getElem?_take]
  split
  ·rename_i hlt
   have hF : t < (Go.Sort.flatK encY 2 d).size := by rw [flat_size]; omega
   have hC : t < cur.size := by rw [hcs]; have := Nat.mul_le_mul_right 2 hnc; omega
   rw [Array.getElem?_toList, Array.getElem?_toList]
   unfold Go.Sort.putCells
   rw [Array.getElem?_mapIdx, Array.getElem?_eq_getElem hC, Array.getElem?_eq_getElem hF]
   simp only [Option.map_some]
   rw [if_pos ⟨Nat.zero_le _, by omega⟩, Nat.sub_zero, getElem!_pos _ t hF]
   rfl
  ·rename_i hlt
   rw [List.getElem?_eq_none (by rw [Array.length_toList, flat_size]; omega)]
 refine ⟨⟨hok, (Go.Sort.flatK encY 2 d).toList, ⟨by rw [Array.length_toList, flat_size, hd, k2, hs, hn], .inr ⟨g, cap, _, by rw [hd], hb, hb2, by rw [hd]; omega, hcm, by rw [k2]; exact hsz, by rw [hd, k2]; exact htk⟩⟩, ?_⟩, ⟨rfl, rfl, rfl, size_sorted w g m d os, fun k hk hne => ?_⟩⟩
 ·refine ⟨by rw [Array.length_toList, flat_size, hd, k2, hs, hn], fun j p hp => ?_⟩
  have e : ((Go.Sort.flatK encY 2 d).toList.drop (j * kY.sz)).take kY.sz = [.int .i64 p.f0, .int .i64 p.f1] := flat_seg hp
  rw [e]
  exact k38_mkM _ _ _ _
 ·rw [heap_sorted w g m d os k hk, if_neg (fun e => hne (by rw [e]))]
end Go.Proofs.Ytdgjjdpeaohebaa.Mk
