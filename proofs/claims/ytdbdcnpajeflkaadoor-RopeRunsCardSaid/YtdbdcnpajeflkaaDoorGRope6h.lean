/- The walk of Height: how high a rope's tree is. No condition. -/
import Derived.Test.YtdbdcnpajeflkaaDoorGRope6
namespace Go.Proofs.YtdbdcnpajeflkaaDoor.Rope
open Go.RowKit Go.Proofs.YtdbdcnpajeflkaaDoorW.PrintWords Go.Proofs.YtdbdcnpajeflkaaDoorW.PrintLast Go.Proofs.YtdbdcnpajeflkaaDoorW.PrintMore
set_option linter.unusedVariables false
theorem height_calls (t : Option T) (v : Value) (w : World) (h : IsR w v t) : Calls Tryd.prog 30 #[v] w fun e w' => e = .returned (.int .i64 (hO t : Nat)) ∧ w = w' := by
  cases t with
  | none =>
    have e : v = .pointer none := h
    subst e
    clear h
    go_enter Tryd.func30, Tryd.ntmps30
    go_wp2
    go_ret
    exact ⟨rfl, rfl⟩
  | some t =>
    obtain ⟨b, rfl, h⟩ := h
    obtain ⟨l, r, c⟩ := h.cells
    have c4 : w.cell? ⟨b, 3, none⟩ = some (.int .i64 (t.h : Int)) := blk_cell c 3
    clear h c
    go_enter Tryd.func30, Tryd.ntmps30
    go_wp2
    go_ret
    exact ⟨rfl, rfl⟩
end Go.Proofs.YtdbdcnpajeflkaaDoor.Rope
