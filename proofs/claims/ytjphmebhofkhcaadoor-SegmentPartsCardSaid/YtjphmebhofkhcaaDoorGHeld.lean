/- A drawn region whose last operation writes what the region's loads read: the loads are taken first all the same, for the last one waits for them. Conditions: those named. -/
import Derived.Test.YtjphmebhofkhcaaDoorWMore
import Derived.WalkSpells
import Derived.Lib.Hide
import Derived.OrdersHeld
import Derived.Deep.RegionHeld
namespace Go.Proofs.YtjphmebhofkhcaaDoor.Seg
open Go.RowKit Go.Proofs.YtjphmebhofkhcaaDoorW.PrintWords Go.Proofs.YtjphmebhofkhcaaDoorW.PrintLast Go.Proofs.YtjphmebhofkhcaaDoorW.PrintMore
section
variable {P : Program} {ops : Array Oper} {Q : Exit → Act → World → Prop} {md : Region.Mode} {S : World → Prop} {z : Nat}
/-- What is left of a region, in any order; behind each operation but z the condition S is shown. -/
def HeldTo (P : Program) (md : Region.Mode) (ops : Array Oper) (Q : Exit → Act → World → Prop) (S : World → Prop) (z : Nat) (n : Nat) (d : Array Bool) (a : Act) (w : World) : Prop :=
 match n with
 | 0 => Region.ready md ops d = [] ∧ Q .normal a w
 | m + 1 => (Region.ready md ops d = [] → Q .normal a w) ∧ (∀ i, i ∈ Region.ready md ops d → wpOp P ops Q i (fun b v => HeldTo P md ops Q S z m (d.setIfInBounds i true) b v ∧ (i = z ∨ S v)) a w)
theorem HeldTo.any {n : Nat} : ∀ {d : Array Bool} {a : Act} {w : World}, HeldTo P md ops Q S z n d a w → wpAny P md ops Q n d a w := by
 induction n with
 | zero => intro d a w h; exact h
 | succ m ih => intro d a w h; exact ⟨h.1, fun i hi => wpOp_mono (fun b v g => ih g.1) (h.2 i hi)⟩
/-- Does z wait for i? -/
def waitsOn (md : Region.Mode) (ops : Array Oper) (z i : Nat) : Bool := ((ops[z]?).map fun o => o.after.any fun e => e.on == i && Region.binds md e).getD false
theorem waits_ne {i j : Nat} {d : Array Bool} (h : waitsOn md ops z i = true) (hi : i ∈ Region.ready md ops d) (hj : j ∈ Region.ready md ops d) : j ≠ z := by
 rintro rfl
 obtain ⟨_, o, ho, hall⟩ := mem_ready.1 hj
 have hu := (mem_ready.1 hi).1
 unfold waitsOn at h
 rw [ho] at h
 simp only [Option.map_some, Option.getD_some] at h
 obtain ⟨k, hk, he⟩ := Array.any_eq_true.1 h
 rw [Bool.and_eq_true, beq_iff_eq] at he
 have := hall o.after[k] (Array.getElem_mem hk) he.2
 rw [he.1] at this
 rcases Nat.lt_or_ge i d.size with c | c
 ·simp [c] at this hu
  rw [this] at hu
  cases hu
 ·simp [Array.getElem?_eq_none c] at this
theorem HeldTo.take {i : Nat} {oi : Oper} {v : Value} (hi : ops[i]? = some oi) (hs : Region.noSelect ops = true) (hz : waitsOn md ops z i = true) (hQ : ∀ c a w, Q (.panic c) (a.put oi.dst v) w → Q (.panic c) a w) :
  ∀ {n : Nat} {d : Array Bool} {a : Act} {w : World}, Region.free md ops d i = true → (Region.ready md ops d).contains i = true → YieldsIf P ops S oi v a → S w → HeldTo P md ops Q S z n (d.setIfInBounds i true) (a.put oi.dst v) w → HeldTo P md ops Q S z (n + 1) d a w := by
 have sel := Region.noSelect_spec hs
 have key : ∀ (n : Nat) (d : Array Bool) (a : Act) (w : World), (∀ j oj, ops[j]? = some oj → j ≠ i → d.getD j true = false → (∀ e ∈ oj.after, Region.binds md e = true → e.on ≠ i) → oi.apart ops oj = true) → i ∈ Region.ready md ops d → YieldsIf P ops S oi v a → S w → HeldTo P md ops Q S z n (d.setIfInBounds i true) (a.put oi.dst v) w → HeldTo P md ops Q S z (n + 1) d a w := by
  intro n
  induction n with
  | zero =>
   intro d a w hf hr hy hS H
   refine ⟨fun e => (by rw [e] at hr; cases hr), fun j hj => ?_⟩
   rcases Nat.decEq j i with c | c
   ·have k := ready_mono hj c
    rw [H.1] at k
    cases k
   ·subst c
    exact hy.wpOp hi hS ⟨H, .inr hS⟩
  | succ m ih =>
   intro d a w hf hr hy hS H
   refine ⟨fun e => (by rw [e] at hr; cases hr), fun j hj => ?_⟩
   rcases Nat.decEq j i with c | c
   ·have hjz := waits_ne hz hr hj
    obtain ⟨hun, oj, hoj, hall⟩ := mem_ready.1 hj
    have no : ∀ e ∈ oj.after, Region.binds md e = true → e.on ≠ i := fun e he hb h => by
     have h1 := hall e he hb
     have h2 := (mem_ready.1 hr).1
     rw [h] at h1
     rcases Nat.lt_or_ge i d.size with k | k
     ·simp [k] at h1 h2
      rw [h1] at h2
      cases h2
     ·simp [Array.getElem?_eq_none k] at h1
    have step := wpOp_putIf hoj (hf j oj hoj c hun no) (fun cs b => sel i oi cs b hi) (fun cs b => sel j oj cs b hoj) hQ hy (H.2 j (ready_mono hj c))
    refine wpOp_mono (fun b u g => ?_) step
    obtain ⟨g1, g2, g3⟩ := g
    have hSu : S u := g3.resolve_left hjz
    refine ⟨ih _ _ _ (fun k ok hk hki hku hkn => ?_) (ready_mono hr (Ne.symm c)) g1 hSu ?_, .inr hSu⟩
    ·rcases Nat.decEq j k with q | q
     ·exact hf k ok hk hki (by rw [← getD_set_ne true q]; exact hku) hkn
     ·subst q
      exact hf _ ok hk hki hun hkn
    ·rw [Array.setIfInBounds_comm _ _ c]
     exact g2
   ·subst c
    exact hy.wpOp hi hS ⟨H, .inr hS⟩
 intro n d a w hf hr
 exact key n d a w (Region.free_spec hi hf) (by simpa using hr)
theorem HeldTo.one {i : Nat} {o : Oper} {n : Nat} {d : Array Bool} {a : Act} {w : World} (hr : Region.ready md ops d = [i]) (ho : ops[i]? = some o)
  (h : ∀ K : Act → World → Prop, Shut (∀ b v, (i = z ∨ S v) → HeldTo P md ops Q S z n (d.setIfInBounds i true) b v → K b v) → if Region.wanted o (yielded ops a.tmps) = true then Oper.wp P o a w K Q else K (a.put o.dst undef) w) : HeldTo P md ops Q S z (n + 1) d a w := by
 refine ⟨fun e => (by rw [hr] at e; cases e), fun j hj => ?_⟩
 rw [hr] at hj
 have hj := List.mem_singleton.1 hj
 subst hj
 exact wpOp_step ho (fun K hK => h K (fun b v g1 g2 => hK b v ⟨g2, g1⟩))
theorem HeldTo.done {d : Array Bool} {a : Act} {w : World} (hr : Region.ready md ops d = []) (h : Q .normal a w) : ∀ n, HeldTo P md ops Q S z n d a w
 | 0 => ⟨hr, h⟩
 | _ + 1 => ⟨fun _ => h, by rw [hr]; intro i hi; cases hi⟩
theorem wp_region_to (z : Nat) {id : Nat} {a : Act} {w : World} (hm : P.follows .mixedOrders = true) (h : HeldTo P .any ops Q S z ops.size (Array.replicate ops.size false) a w.drew) : (Code.region id ops true).wp P Q a w := wp_region_any hm h.any
end
end Go.Proofs.YtjphmebhofkhcaaDoor.Seg
