/- The walks of rope.leaf, node, fix and Join: what they make. Conditions: texts of at most 2^40 bytes. -/
import Derived.Test.YtdbdcnpajeflkaaDoorGRope1
namespace Go.Proofs.YtdbdcnpajeflkaaDoor.Rope
open Go.RowKit Go.Proofs.YtdbdcnpajeflkaaDoorW.PrintWords Go.Proofs.YtdbdcnpajeflkaaDoorW.PrintLast Go.Proofs.YtdbdcnpajeflkaaDoorW.PrintMore
set_option linter.unusedVariables false
set_option linter.unusedSimpArgs false
attribute [local go_sem] max2_int min2_int max_two min_two
theorem leaf_calls (s : ByteArray) (w : World) (hs : s.size ≤ 1099511627776) : Calls Tryd.prog 21 #[.string s] w (RetT (.leaf s) w) := by
  have hc : s.size ≤ 4611686018427387904 := by omega
  go_enter Tryd.func21, Tryd.ntmps21
  go_wp2_with (go_at_call 36; refine (letters_Count s _ hc).mono ?_; rintro e w1 ⟨rfl, hb⟩; have HB := Lib.hid hb; clear hb)
  go_ret
  exact ⟨_, rfl, blk_new w1 _, HB.out.alloc HB.out.size _⟩
set_option maxRecDepth 100000 in
theorem node_calls (l r : T) (bl br : Nat) (w : World) (hl : IsT w l bl) (hr : IsT w r br) (nl : l.Ne) (nr : r.Ne) (hs : l.bytes + r.bytes ≤ 1099511627776) :
    Calls Tryd.prog 32 #[.pointer (some ⟨bl, 0, none⟩), .pointer (some ⟨br, 0, none⟩)] w (RetT (.node l r) w) := by
  obtain ⟨la, lb, cl⟩ := hl.cells
  obtain ⟨ra, rb, cr⟩ := hr.cells
  have a3 : w.cell? ⟨bl, 3, none⟩ = some (.int .i64 (l.h : Int)) := blk_cell cl 3
  have a4 : w.cell? ⟨bl, 4, none⟩ = some (.int .i64 (l.runes : Int)) := blk_cell cl 4
  have a5 : w.cell? ⟨bl, 5, none⟩ = some (.int .i64 (l.bytes : Int)) := blk_cell cl 5
  have b3 : w.cell? ⟨br, 3, none⟩ = some (.int .i64 (r.h : Int)) := blk_cell cr 3
  have b4 : w.cell? ⟨br, 4, none⟩ = some (.int .i64 (r.runes : Int)) := blk_cell cr 4
  have b5 : w.cell? ⟨br, 5, none⟩ = some (.int .i64 (r.bytes : Int)) := blk_cell cr 5
  have i1 := l.h_lt nl
  have i2 := r.h_lt nr
  have i3 := l.runes_le
  have i4 := r.runes_le
  go_enter Tryd.func32, Tryd.ntmps32
  go_wp2
  go_still_tail 31, (by kernel_rfl)
  have hd : Below w.heap.size w w.drew := (Below.refl _ _).drew
  change wpList _ _ _ _ _ w.drew
  have HD := Lib.hid hd
  clear hd
  generalize w.drew = w2 at HD ⊢
  have e2 : ((T.node l r).runes : Int) = (l.runes : Int) + (r.runes : Int) := by simp only [T.runes]; omega
  have e3 : ((T.node l r).bytes : Int) = (l.bytes : Int) + (r.bytes : Int) := by simp only [T.bytes]; omega
  have E2 := Lib.hid e2
  have E3 := Lib.hid e3
  clear e2 e3
  go_wp2
  all_goals
    have e1 : ((T.node l r).h : Int) = ((if l.h < r.h then r.h else l.h : Nat) : Int) + 1 := by simp only [T.h]; split <;> omega
    go_ret
    refine ⟨_, rfl, ⟨bl, br, ?_, hl.below (HD.out.alloc HD.out.size _), hr.below (HD.out.alloc HD.out.size _)⟩, HD.out.alloc HD.out.size _⟩
    rw [blk_new, cellsOf, e1, E2.out, E3.out]
    first | rw [if_pos ‹l.h < r.h›] | rw [if_neg ‹¬ l.h < r.h›]
    rfl
set_option maxRecDepth 100000 in
theorem two_calls (left : Bool) (l r : T) (bl br c : Nat) (w : World) (hl : IsT w l bl) (hr : IsT w r br) (nl : l.Ne) (nr : r.Ne) (hs : l.bytes + r.bytes ≤ 1099511627776) (hc : w.cell? ⟨c, 0, none⟩ = some (.bool left)) :
    Calls Tryd.prog 42 #[.pointer (some ⟨bl, 0, none⟩), .pointer (some ⟨br, 0, none⟩), .pointer (some ⟨c, 0, none⟩)] w (RetT (two left l r) w) := by
  cases left
  · go_enter Tryd.func42, Tryd.ntmps42
    go_wp2_with (go_at_call 32; refine (node_calls l r bl br _ hl hr nl nr hs).mono ?_; rintro e w1 ⟨b, rfl, hb⟩)
    go_ret
    exact ⟨b, rfl, hb⟩
  · have hs' : r.bytes + l.bytes ≤ 1099511627776 := by omega
    go_enter Tryd.func42, Tryd.ntmps42
    go_wp2_with (go_at_call 32; refine (node_calls r l br bl _ hr hl nr nl hs').mono ?_; rintro e w1 ⟨b, rfl, hb⟩)
    go_ret
    exact ⟨b, rfl, hb⟩
end Go.Proofs.YtdbdcnpajeflkaaDoor.Rope
