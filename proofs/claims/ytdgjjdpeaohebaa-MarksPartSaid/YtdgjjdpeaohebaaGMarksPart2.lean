/- The contract of chancelref04.Part: the marks of both parts. -/
import Derived.Test.YtdgjjdpeaohebaaPMarksPartx8
import Derived.Test.YtdgjjdpeaohebaaPMarksPartx9
import Derived.WalkSpells
import Derived.Lib.Hide
import Derived.Deep.RegionHeld3
namespace Go.Proofs.Ytdgjjdpeaohebaa.PMarksPart
open Go.RowKit Go.Proofs.YtdgjjdpeaohebaaW.PrintWords Go.Proofs.YtdgjjdpeaohebaaW.PrintLast Go.Proofs.YtdgjjdpeaohebaaW.PrintMore
set_option linter.unusedVariables false
set_option linter.unusedSimpArgs false
/-- The blocks of refPart's own, all unlike. -/
structure Bs (w : World) (g3 g6 g7 g9 g10 : Nat) : Prop where
 h3 : w.heap.size ≤ g3
 h6 : w.heap.size ≤ g6
 h7 : w.heap.size ≤ g7
 h9 : w.heap.size ≤ g9
 h10 : w.heap.size ≤ g10
 d39 : g3 ≠ g9
 d310 : g3 ≠ g10
 d69 : g6 ≠ g9
 d610 : g6 ≠ g10
 d79 : g7 ≠ g9
 d710 : g7 ≠ g10
 d910 : g9 ≠ g10
def OKp (w : World) (g6 g7 g9 g10 : Nat) (k : Nat) : Prop := w.heap.size ≤ k ∧ k ≠ g6 ∧ k ≠ g7 ∧ k ≠ g9 ∧ k ≠ g10
/-- What holds all along refPart. -/
structure St (w : World) (g3 g6 g7 g9 g10 : Nat) (m0 m1 va sa vb sb : Value) (r1 : List S26) (xa : List S38) (r3 : List S26) (xb : List S38) (W : World) : Prop where
 b3 : W.heap[g3]? = some (.cells #[m0, m1] 30 (0, 0))
 b6 : W.heap[g6]? = some (.cells #[.slice none 0 0, .slice none 0 0] 30 (0, 0))
 b7 : W.heap[g7]? = some (.cells #[.slice none 0 0, .slice none 0 0] 30 (0, 0))
 b9 : W.heap[g9]? = some (.cells #[va, sa] 30 (0, 0))
 b10 : W.heap[g10]? = some (.cells #[vb, sb] 30 (0, 0))
 ra : Kd.V k26 26 W w.heap.size (OKp w g6 g7 g9 g10) va r1
 ya : Kd.V k38 38 W w.heap.size (OKp w g6 g7 g9 g10) sa xa
 rb : Kd.V k26 26 W w.heap.size (OKp w g6 g7 g9 g10) vb r3
 yb : Kd.V k38 38 W w.heap.size (OKp w g6 g7 g9 g10) sb xb
 bel : Below w.heap.size w W
variable {w W W' : World} {g3 g6 g7 g9 g10 : Nat} {m0 m1 va sa vb sb v : Value} {r1 r3 : List S26} {xa xb xc : List S38}
theorem St.next (h : St w g3 g6 g7 g9 g10 m0 m1 va sa vb sb r1 xa r3 xb W) (hb : Below W.heap.size W W') : St w g3 g6 g7 g9 g10 m0 m1 va sa vb sb r1 xa r3 xb W' :=
 ⟨blk_below h.b3 hb, blk_below h.b6 hb, blk_below h.b7 hb, blk_below h.b9 hb, blk_below h.b10 hb, Kd.V_below h.ra hb, Kd.V_below h.ya hb, Kd.V_below h.rb hb, Kd.V_below h.yb hb, below_then h.bel h.bel.size hb⟩
theorem St.put9 (h : St w g3 g6 g7 g9 g10 m0 m1 va sa vb sb r1 xa r3 xb W) (d : Bs w g3 g6 g7 g9 g10) (hv : Kd.V k38 38 W w.heap.size (OKp w g6 g7 g9 g10) v xc) :
  St w g3 g6 g7 g9 g10 m0 m1 va v vb sb r1 xc r3 xb (W.setCell ⟨g9, 1, none⟩ v) :=
 ⟨blk_far h.b3 d.d39 _, blk_far h.b6 d.d69 _, blk_far h.b7 d.d79 _, blk_put h.b9 1 _ rfl, blk_far h.b10 (fun e => d.d910 e.symm) _, Kd.V_far h.ra (fun _ hk => hk.2.2.2.1) _, Kd.V_far hv (fun _ hk => hk.2.2.2.1) _, Kd.V_far h.rb (fun _ hk => hk.2.2.2.1) _, Kd.V_far h.yb (fun _ hk => hk.2.2.2.1) _, below_set h.bel d.h9⟩
theorem St.put10 (h : St w g3 g6 g7 g9 g10 m0 m1 va sa vb sb r1 xa r3 xb W) (d : Bs w g3 g6 g7 g9 g10) (hv : Kd.V k38 38 W w.heap.size (OKp w g6 g7 g9 g10) v xc) :
  St w g3 g6 g7 g9 g10 m0 m1 va sa vb v r1 xa r3 xc (W.setCell ⟨g10, 1, none⟩ v) :=
 ⟨blk_far h.b3 d.d310 _, blk_far h.b6 d.d610 _, blk_far h.b7 d.d710 _, blk_far h.b9 d.d910 _, blk_put h.b10 1 _ rfl, Kd.V_far h.ra (fun _ hk => hk.2.2.2.2) _, Kd.V_far h.ya (fun _ hk => hk.2.2.2.2) _, Kd.V_far h.rb (fun _ hk => hk.2.2.2.2) _, Kd.V_far hv (fun _ hk => hk.2.2.2.2) _, below_set h.bel d.h10⟩
/-- What site hands back is of the kept kind. -/
theorem OKp.site {w W : World} {g3 g6 g7 g9 g10 : Nat} {m0 m1 va sa vb sb : Value} {r1 r3 : List S26} {xa xb xc : List S38} {v : Value} {W' : World} (h : St w g3 g6 g7 g9 g10 m0 m1 va sa vb sb r1 xa r3 xb W)
  (hv : Kd.V k38 38 W' W.heap.size (fun k_ => OKp w g6 g7 g9 g10 k_ ∨ W.heap.size ≤ k_) v xc) : Kd.V k38 38 W' w.heap.size (OKp w g6 g7 g9 g10) v xc :=
 Kd.V_mono hv (fun k hk => by
  rcases hk with hk | hk
  ·exact hk
  ·have h6 := blk_lt h.b6; have h7 := blk_lt h.b7; have h9 := blk_lt h.b9; have h10 := blk_lt h.b10; have hs := h.bel.size
   exact ⟨by omega, by omega, by omega, by omega, by omega⟩)
/-- What holds all along the last region: as St, the result's blocks told by what they are. -/
structure FinS (w : World) (g6 g7 g9 g10 : Nat) (va sa vb sb : Value) (r1 : List S26) (xa : List S38) (r3 : List S26) (xb : List S38) (W : World) : Prop where
 b6 : ∃ u0 u1, W.heap[g6]? = some (.cells #[u0, u1] 30 (0, 0))
 b7 : ∃ u0 u1, W.heap[g7]? = some (.cells #[u0, u1] 30 (0, 0))
 b9 : W.heap[g9]? = some (.cells #[va, sa] 30 (0, 0))
 b10 : W.heap[g10]? = some (.cells #[vb, sb] 30 (0, 0))
 ra : Kd.V k26 26 W w.heap.size (OKp w g6 g7 g9 g10) va r1
 ya : Kd.V k38 38 W w.heap.size (OKp w g6 g7 g9 g10) sa xa
 rb : Kd.V k26 26 W w.heap.size (OKp w g6 g7 g9 g10) vb r3
 yb : Kd.V k38 38 W w.heap.size (OKp w g6 g7 g9 g10) sb xb
 bel : Below w.heap.size w W
theorem St.fin (h : St w g3 g6 g7 g9 g10 m0 m1 va sa vb sb r1 xa r3 xb W) : FinS w g6 g7 g9 g10 va sa vb sb r1 xa r3 xb W := ⟨⟨_, _, h.b6⟩, ⟨_, _, h.b7⟩, h.b9, h.b10, h.ra, h.ya, h.rb, h.yb, h.bel⟩
theorem FinS.next (h : FinS w g6 g7 g9 g10 va sa vb sb r1 xa r3 xb W) (hb : Below W.heap.size W W') : FinS w g6 g7 g9 g10 va sa vb sb r1 xa r3 xb W' := by
 obtain ⟨u0, u1, h6⟩ := h.b6
 obtain ⟨t0, t1, h7⟩ := h.b7
 exact ⟨⟨_, _, blk_below h6 hb⟩, ⟨_, _, blk_below h7 hb⟩, blk_below h.b9 hb, blk_below h.b10 hb, Kd.V_below h.ra hb, Kd.V_below h.ya hb, Kd.V_below h.rb hb, Kd.V_below h.yb hb, below_then h.bel h.bel.size hb⟩
theorem FinS.set6 (h : FinS w g6 g7 g9 g10 va sa vb sb r1 xa r3 xb W) (d : Bs w g3 g6 g7 g9 g10) (d67 : g6 ≠ g7) (u0 u1 : Value) : FinS w g6 g7 g9 g10 va sa vb sb r1 xa r3 xb ((W.setCell ⟨g6, 0, none⟩ u0).setCell ⟨g6, 1, none⟩ u1) := by
 obtain ⟨x0, x1, h6⟩ := h.b6
 obtain ⟨t0, t1, h7⟩ := h.b7
 exact ⟨⟨_, _, blk_put (cs' := #[u0, u1]) (blk_put (cs' := #[u0, x1]) h6 0 _ rfl) 1 _ rfl⟩, ⟨_, _, blk_far (blk_far h7 d67.symm _) d67.symm _⟩, blk_far (blk_far h.b9 d.d69.symm _) d.d69.symm _, blk_far (blk_far h.b10 d.d610.symm _) d.d610.symm _,
  Kd.V_far (Kd.V_far h.ra (fun _ hk => hk.2.1) _) (fun _ hk => hk.2.1) _, Kd.V_far (Kd.V_far h.ya (fun _ hk => hk.2.1) _) (fun _ hk => hk.2.1) _, Kd.V_far (Kd.V_far h.rb (fun _ hk => hk.2.1) _) (fun _ hk => hk.2.1) _, Kd.V_far (Kd.V_far h.yb (fun _ hk => hk.2.1) _) (fun _ hk => hk.2.1) _, below_set (below_set h.bel d.h6) d.h6⟩
theorem FinS.set7 (h : FinS w g6 g7 g9 g10 va sa vb sb r1 xa r3 xb W) (d : Bs w g3 g6 g7 g9 g10) (d67 : g6 ≠ g7) (u0 u1 : Value) : FinS w g6 g7 g9 g10 va sa vb sb r1 xa r3 xb ((W.setCell ⟨g7, 0, none⟩ u0).setCell ⟨g7, 1, none⟩ u1) := by
 obtain ⟨x0, x1, h6⟩ := h.b6
 obtain ⟨t0, t1, h7⟩ := h.b7
 exact ⟨⟨_, _, blk_far (blk_far h6 d67 _) d67 _⟩, ⟨_, _, blk_put (cs' := #[u0, u1]) (blk_put (cs' := #[u0, t1]) h7 0 _ rfl) 1 _ rfl⟩, blk_far (blk_far h.b9 d.d79.symm _) d.d79.symm _, blk_far (blk_far h.b10 d.d710.symm _) d.d710.symm _,
  Kd.V_far (Kd.V_far h.ra (fun _ hk => hk.2.2.1) _) (fun _ hk => hk.2.2.1) _, Kd.V_far (Kd.V_far h.ya (fun _ hk => hk.2.2.1) _) (fun _ hk => hk.2.2.1) _, Kd.V_far (Kd.V_far h.rb (fun _ hk => hk.2.2.1) _) (fun _ hk => hk.2.2.1) _, Kd.V_far (Kd.V_far h.yb (fun _ hk => hk.2.2.1) _) (fun _ hk => hk.2.2.1) _, below_set (below_set h.bel d.h7) d.h7⟩
/-- A cell that is there, told by itself. -/
@[irreducible] def CG (W : World) (g j : Nat) : Value := (W.cell? ⟨g, j, none⟩).getD undef
theorem CG_of {W : World} {g j : Nat} {u : Value} (h : W.cell? ⟨g, j, none⟩ = some u) : W.cell? ⟨g, j, none⟩ = some (CG W g j) := by unfold CG; rw [h]; rfl
abbrev SF (w : World) (g6 g7 g9 g10 : Nat) (va sa vb sb : Value) (r1 : List S26) (xa : List S38) (r3 : List S26) (xb : List S38) (W : World) : Prop :=
 W.cell? ⟨g9, 0, none⟩ = some va ∧ W.cell? ⟨g9, 1, none⟩ = some sa ∧ W.cell? ⟨g10, 0, none⟩ = some vb ∧ W.cell? ⟨g10, 1, none⟩ = some sb ∧
 W.cell? ⟨g6, 0, none⟩ = some (CG W g6 0) ∧ W.cell? ⟨g6, 1, none⟩ = some (CG W g6 1) ∧ W.cell? ⟨g7, 0, none⟩ = some (CG W g7 0) ∧ W.cell? ⟨g7, 1, none⟩ = some (CG W g7 1) ∧
 W.frozen? ⟨g6, 0, none⟩ = false ∧ W.frozen? ⟨g6, 1, none⟩ = false ∧ W.frozen? ⟨g7, 0, none⟩ = false ∧ W.frozen? ⟨g7, 1, none⟩ = false ∧ Aside0 (FinS w g6 g7 g9 g10 va sa vb sb r1 xa r3 xb W)
theorem FinS.sf (h : FinS w g6 g7 g9 g10 va sa vb sb r1 xa r3 xb W) : SF w g6 g7 g9 g10 va sa vb sb r1 xa r3 xb W := by
 obtain ⟨x0, x1, h6⟩ := h.b6
 obtain ⟨t0, t1, h7⟩ := h.b7
 exact ⟨(blk_cell h.b9 0).trans rfl, (blk_cell h.b9 1).trans rfl, (blk_cell h.b10 0).trans rfl, (blk_cell h.b10 1).trans rfl, CG_of ((blk_cell h6 0).trans rfl), CG_of ((blk_cell h6 1).trans rfl), CG_of ((blk_cell h7 0).trans rfl), CG_of ((blk_cell h7 1).trans rfl), blk_frozen h6 0, blk_frozen h6 1, blk_frozen h7 0, blk_frozen h7 1, ⟨h⟩⟩
theorem SF.fin (h : SF w g6 g7 g9 g10 va sa vb sb r1 xa r3 xb W) : FinS w g6 g7 g9 g10 va sa vb sb r1 xa r3 xb W := h.2.2.2.2.2.2.2.2.2.2.2.2.out
def chancelref04_Part.l0 : Nat → Int → List S38 → Int → List S38 → List S38 → Option (List S38 × List S38)
 | 0, _, _, _, _, _ => none
 | k + 1, at_, ys, i, sa, sb => if i < (ys.length : Int) then (if 0 ≤ i then (if (rd_T38 ys i).f1 ≤ at_ then ((chancelref04_site.f k sa (rd_T38 ys i).f0 (rd_T38 ys i).f1).bind fun sa' => chancelref04_Part.l0 k at_ ys (wrap64 (i + 1)) sa' sb)
   else ((chancelref04_site.f k sb (rd_T38 ys i).f0 (wrap64 ((rd_T38 ys i).f1 - at_))).bind fun sb' => chancelref04_Part.l0 k at_ ys (wrap64 (i + 1)) sa sb')) else none) else some (sa, sb)
def chancelref04_Part.f (k : Nat) (l0_0 : List (S26)) (l0_1 : List (S38)) (a1 : Int) (a2 : Int) : Option ((List (S26)) × (List (S38)) × (List (S26)) × (List (S38))) :=
 (chancelref04_each.f k l0_0 l0_1 a1).bind fun l => if 0 ≤ a2 then (if a2 ≤ (l.length : Int) then ((chancelref04_spans.f k (l.take a2.toNat)).bind fun a => (chancelref04_spans.f k (l.drop a2.toNat)).bind fun b => (chancelref04_Part.l0 k a2 l0_1 0 [] []).bind fun s => some (a, s.1, b, s.2)) else none) else none
theorem chancelref04_Part.mono_l : ∀ k, (∀ y0 y1 y2 y3 y4, LeO (chancelref04_Part.l0 k y0 y1 y2 y3 y4) (chancelref04_Part.l0 (k + 1) y0 y1 y2 y3 y4))
 | 0 => fun _ _ _ _ _ r h => by simp [chancelref04_Part.l0] at h
 | k + 1 => by
  have ih0 := chancelref04_Part.mono_l k
  intro y0 y1 y2 y3 y4
  unfold chancelref04_Part.l0
  repeat' first
   | (with_reducible exact ih0 _ _ _ _ _)
   | (with_reducible exact chancelref04_site.mono _ _ _ _)
   | (with_reducible exact LeO.refl _)
   | (with_reducible exact LeO.none _)
   | (with_reducible refine LeO.ite ?_ ?_)
   | (with_reducible refine LeO.bind ?_ (fun _ => ?_))
theorem chancelref04_Part.mono : ∀ a0 a1 a2 a3 k, LeO (chancelref04_Part.f k a0 a1 a2 a3) (chancelref04_Part.f (k + 1) a0 a1 a2 a3) := by
 intro a0 a1 a2 a3 k
 unfold chancelref04_Part.f
 repeat' first
   | (with_reducible exact chancelref04_Part.mono_l _ _ _ _ _ _)
   | (with_reducible exact chancelref04_each.mono _ _ _ _)
   | (with_reducible exact chancelref04_spans.mono _ _)
   | (with_reducible exact LeO.refl _)
   | (with_reducible exact LeO.none _)
   | (with_reducible refine LeO.ite ?_ ?_)
   | (with_reducible refine LeO.bind ?_ (fun _ => ?_))

set_option maxHeartbeats 8000000 in
set_option maxRecDepth 100000 in
theorem part20 (k : Nat) (w : World) (A0 A1 : Option Addr) (c0 c1 : Nat) (xs : List S26) (ys : List S38) (n at_ : Int) (l : List Int) (r1 r3 : List S26) (r2 r4 : List S38) (hr0 : Kd.C k26 w A0 xs.length xs) (hc0 : xs.length ≤ c0) (hr1 : Kd.C k38 w A1 ys.length ys) (hc1 : ys.length ≤ c1)
  (he : chancelref04_each.f k xs ys n = some l) (h0 : 0 ≤ at_) (hl : at_ ≤ (l.length : Int)) (ha : chancelref04_spans.f k (l.take at_.toNat) = some r1) (hb : chancelref04_spans.f k (l.drop at_.toNat) = some r3) (hs : chancelref04_Part.l0 k at_ ys 0 [] [] = some (r2, r4)) :
  Calls Try.prog 20 #[.agg #[.slice A0 xs.length c0, .slice A1 ys.length c1], .int .i64 n, .int .i64 at_] w fun e w' => ∃ v0_ v1_ v2_ v3_ : Value, e = .returned (.tuple #[.agg #[v0_, v1_], .agg #[v2_, v3_]]) ∧ Kd.V k26 26 w' w.heap.size (fun k_ => w.heap.size ≤ k_) v0_ r1 ∧ Kd.V k38 38 w' w.heap.size (fun k_ => w.heap.size ≤ k_) v1_ r2 ∧ Kd.V k26 26 w' w.heap.size (fun k_ => w.heap.size ≤ k_) v2_ r3 ∧ Kd.V k38 38 w' w.heap.size (fun k_ => w.heap.size ≤ k_) v3_ r4 ∧ Below w.heap.size w w' := by
 have HR0 := Aside0.mk hr0; have HC0 := Aside0.mk hc0; have HR1 := Aside0.mk hr1; have HC1 := Aside0.mk hc1; have HE := Aside0.mk he; have HA := Aside0.mk ha; have HBB := Aside0.mk hb; have HS := Aside0.mk hs
 clear hr0 hc0 hr1 hc1 he ha hb hs
 have HB := Aside0.mk (Below.refl w.heap.size w)
 have hu30 := Try.underlying30; have hu26 := Try.underlying26; have hu38 := Try.underlying38
 go_enter Try.func20, Try.ntmps20
 go_upto_region 2 with (first | ((with_reducible refine gate_dst (N := 3) rfl ?_); refine box_event ?hg (N := 3) ?hd (cs := #[(.slice A0 xs.length c0), (.slice A1 ys.length c1)]) (t := 30) ?hr ?_; (case hd => rfl); (case hg => rfl); (case hr => first | (go_simp; done) | (go_simp; rfl)); intro g3 hg w_g3 hbox hb; have BK3 := Aside0.mk hbox; have GBK3 := Aside0.mk ((by rw [hg]; exact below_size (by repeat (first | (with_reducible first | exact HB.out | apply below_alloc | apply pw_below_drewN | apply below_drew1) | exact HB.out))) : w.heap.size ≤ g3); have n_ := Aside0.mk (below_step (by repeat (first | (with_reducible first | exact HB.out | apply below_alloc | apply pw_below_drewN | apply below_drew1) | exact HB.out)) hb); clear HB; have HB := n_; clear n_; clear hb hbox hg) | ((with_reducible refine gate_dst (N := 6) rfl ?_); refine box_event ?hg (N := 6) ?hd (cs := #[.slice none 0 0, .slice none 0 0]) (t := 30) ?hr ?_; (case hd => rfl); (case hg => rfl); (case hr => first | (go_simp; done) | (go_simp; rfl)); intro g6 hg w_g6 hbox hb; have DBK6_BK3 := Aside0.mk ((by rw [hg]; exact Nat.ne_of_lt (blk_lt BK3.out)) : g3 ≠ g6); have BK6 := Aside0.mk hbox; have GBK6 := Aside0.mk ((by rw [hg]; exact below_size (by repeat (first | (with_reducible first | exact HB.out | apply below_alloc | apply pw_below_drewN | apply below_drew1) | exact HB.out))) : w.heap.size ≤ g6); have n_ := Aside0.mk (below_step (by repeat (first | (with_reducible first | exact HB.out | apply below_alloc | apply pw_below_drewN | apply below_drew1) | exact HB.out)) hb); clear HB; have HB := n_; clear n_; have n_ := Aside0.mk (blk_below BK3.out hb); clear BK3; have BK3 := n_; clear n_; clear hb hbox hg) | ((with_reducible refine gate_dst (N := 7) rfl ?_); refine box_event ?hg (N := 7) ?hd (cs := #[.slice none 0 0, .slice none 0 0]) (t := 30) ?hr ?_; (case hd => rfl); (case hg => rfl); (case hr => first | (go_simp; done) | (go_simp; rfl)); intro g7 hg w_g7 hbox hb; have DBK7_BK3 := Aside0.mk ((by rw [hg]; exact Nat.ne_of_lt (blk_lt BK3.out)) : g3 ≠ g7); have DBK7_BK6 := Aside0.mk ((by rw [hg]; exact Nat.ne_of_lt (blk_lt BK6.out)) : g6 ≠ g7); have BK7 := Aside0.mk hbox; have GBK7 := Aside0.mk ((by rw [hg]; exact below_size (by repeat (first | (with_reducible first | exact HB.out | apply below_alloc | apply pw_below_drewN | apply below_drew1) | exact HB.out))) : w.heap.size ≤ g7); have n_ := Aside0.mk (below_step (by repeat (first | (with_reducible first | exact HB.out | apply below_alloc | apply pw_below_drewN | apply below_drew1) | exact HB.out)) hb); clear HB; have HB := n_; clear n_; have n_ := Aside0.mk (blk_below BK3.out hb); clear BK3; have BK3 := n_; clear n_; have n_ := Aside0.mk (blk_below BK6.out hb); clear BK6; have BK6 := n_; clear n_; have q0 : w_g7.cell? ⟨g3, 0, none⟩ = some (.slice A0 xs.length c0) := (blk_cell BK3.out 0).trans rfl; have q1 : w_g7.cell? ⟨g3, 1, none⟩ = some (.slice A1 ys.length c1) := (blk_cell BK3.out 1).trans rfl; clear hb hbox hg) | ((with_reducible refine gate_callee (f := 33) rfl ?_); refine goesL_ (some 15) rfl rfl Try.func33 (by kernel_rfl) rfl #[.agg #[.slice A0 xs.length c0, .slice A1 ys.length c1], .int .i64 n] rfl (by (try simp only [List.map_toArray, List.map_cons, List.map_nil]); first | done | rfl | (simp only [List.length_drop, List.length_take]; rfl)) ?_; (with_reducible refine (chancelref04_each.calls k _ _ xs _ _ ys n l _ ?side1 ?side2 ?side3 ?side4 HE.out).mono ?_); (case side1 => exact Kd.C_below HR0.out HB.out); (case side2 => exact HC0.out); (case side3 => exact Kd.C_below HR1.out HB.out); (case side4 => exact HC1.out); rintro e wl ⟨v_, rfl, ho, hb⟩; refine ⟨_, rfl, ?_⟩; have HL := Aside0.mk (Kd.R_lower ho (below_size (by repeat (first | (with_reducible first | exact HB.out | apply below_alloc | apply pw_below_drewN | apply below_drew1) | exact HB.out)))); have n_ := Aside0.mk (blk_below BK3.out hb); clear BK3; have BK3 := n_; clear n_; have n_ := Aside0.mk (blk_below BK6.out hb); clear BK6; have BK6 := n_; clear n_; have n_ := Aside0.mk (blk_below BK7.out hb); clear BK7; have BK7 := n_; clear n_; have n_ := Aside0.mk (below_step (by repeat (first | (with_reducible first | exact HB.out | apply below_alloc | apply pw_below_drewN | apply below_drew1) | exact HB.out)) hb); clear HB; have HB := n_; clear n_; clear hb ho; obtain ⟨Al, cl, el⟩ := Kd.R_slice HL.out; subst el) | go_in)
 have HB2 := Aside0.mk (Below.refl wl.heap.size wl)
 obtain ⟨i3, hi3, _, hsz3, _⟩ := info_parts info3
 have hll := (Kd.R_reads' HL.out).2.1
 have hCl := (Kd.R_reads' HL.out).2.2
 have hcut1 := cut_to (P := Try.prog) 34 3 .i64 Try.underlying34 hi3 Al l.length cl at_ h0 hl hll
 have hcut2 := cut_from (P := Try.prog) 34 3 .i64 Try.underlying34 hi3 1 hsz3 Al l.length cl at_ h0 hl
 have hC1 := Aside0.mk (Kd.C_take (m := at_.toNat) hCl (by omega))
 have hC2 : Aside0 (Kd.C (Kd.int .i64) wl (if cl = at_.toNat then Al else Al.map (·.add (at_.toNat * 1))) (l.drop at_.toNat).length (l.drop at_.toNat)) := ⟨Kd.C_drop (c := cl) (m := at_.toNat) hCl (by omega) hll⟩
 have hL1 : Aside0 ((l.take at_.toNat).length ≤ cl) := ⟨by rw [List.length_take]; omega⟩
 have hL2 : Aside0 ((l.drop at_.toNat).length ≤ cl - at_.toNat) := ⟨by rw [List.length_drop]; omega⟩
 have e1 : (l.take at_.toNat).length = at_.toNat := by rw [List.length_take]; omega
 have e2 : (l.drop at_.toNat).length = l.length - at_.toNat := by rw [List.length_drop]
 rw [← e2] at hcut2
 generalize (if cl = at_.toNat then Al else Al.map (·.add (at_.toNat * 1))) = Ad at hcut2 hC2
 replace hcut1 : ∀ W : World, (Instr.slice 34 (.slice Al l.length cl) none (some (.int .i64 at_)) none).run Try.prog W = .ok (.slice Al (l.take at_.toNat).length cl) W := by rw [e1]; exact hcut1
 clear hll hCl e1 e2
 generalize l.take at_.toNat = lt at HA hcut1 hC1 hL1
 generalize l.drop at_.toNat = ld at HBB hcut2 hC2 hL2
 go_upto_region 3 with (first | ((with_reducible refine gate_callee (f := 34) rfl ?_); refine goesL_ (some 19) rfl rfl Try.func34 (by kernel_rfl) rfl #[.slice Al lt.length cl] rfl (by (try simp only [List.map_toArray, List.map_cons, List.map_nil]); first | done | rfl | (simp only [List.length_drop, List.length_take]; rfl)) ?_; (with_reducible refine (chancelref04_spans.calls k _ _ lt r1 _ ?side1 ?side2 HA.out).mono ?_); (case side1 => exact hC1.out); (case side2 => exact hL1.out); rintro e wq ⟨v_, rfl, ho, hb⟩; refine ⟨_, rfl, ?_⟩; obtain ⟨Aa, ca, ea⟩ := Kd.R_slice ho; subst ea; have RA : Aside0 (Kd.V k26 26 wq w.heap.size (fun k_ => w.heap.size ≤ k_ ∧ k_ ≠ g6 ∧ k_ ≠ g7) (.slice Aa r1.length ca) r1) := ⟨Kd.V_mono (Kd.R_V (Kd.R_bound ho)) (fun k_ hk => by have h1 := hk.2.1; have h2 := blk_lt BK6.out; have h3 := blk_lt BK7.out; have h4 := below_size HB.out; exact ⟨by omega, by omega, by omega⟩)⟩; have n_ := Aside0.mk (blk_below BK3.out hb); clear BK3; have BK3 := n_; clear n_; have n_ := Aside0.mk (blk_below BK6.out hb); clear BK6; have BK6 := n_; clear n_; have n_ := Aside0.mk (blk_below BK7.out hb); clear BK7; have BK7 := n_; clear n_; have n_ := Aside0.mk (below_step (by repeat (first | (with_reducible first | exact HB.out | apply below_alloc | apply pw_below_drewN | apply below_drew1) | exact HB.out)) hb); clear HB; have HB := n_; clear n_; have n_ := Aside0.mk (below_step (by repeat (first | (with_reducible first | exact HB2.out | apply below_alloc | apply pw_below_drewN | apply below_drew1) | exact HB2.out)) hb); clear HB2; have HB2 := n_; clear n_; clear hb ho) | ((with_reducible refine gate_dst (N := 9) rfl ?_); refine box_event ?hg (N := 9) ?hd (cs := #[.slice none 0 0, .slice none 0 0]) (t := 30) ?hr ?_; (case hd => rfl); (case hg => rfl); (case hr => first | (go_simp; done) | (go_simp; rfl)); intro g9 hg w_g9 hbox hb; have HS9 := Aside0.mk ((by rw [hg]; exact below_size (by repeat (first | (with_reducible first | exact HB2.out | apply below_alloc | apply pw_below_drewN | apply below_drew1) | exact HB2.out))) : wl.heap.size ≤ g9); have DBK9_BK3 := Aside0.mk ((by rw [hg]; exact Nat.ne_of_lt (blk_lt BK3.out)) : g3 ≠ g9); have DBK9_BK6 := Aside0.mk ((by rw [hg]; exact Nat.ne_of_lt (blk_lt BK6.out)) : g6 ≠ g9); have DBK9_BK7 := Aside0.mk ((by rw [hg]; exact Nat.ne_of_lt (blk_lt BK7.out)) : g7 ≠ g9); have BK9 := Aside0.mk hbox; have GBK9 := Aside0.mk ((by rw [hg]; exact below_size (by repeat (first | (with_reducible first | exact HB.out | apply below_alloc | apply pw_below_drewN | apply below_drew1) | exact HB.out))) : w.heap.size ≤ g9); have n_ := Aside0.mk (below_step (by repeat (first | (with_reducible first | exact HB.out | apply below_alloc | apply pw_below_drewN | apply below_drew1) | exact HB.out)) hb); clear HB; have HB := n_; clear n_; have n_ := Aside0.mk (blk_below BK3.out hb); clear BK3; have BK3 := n_; clear n_; have n_ := Aside0.mk (blk_below BK6.out hb); clear BK6; have BK6 := n_; clear n_; have n_ := Aside0.mk (blk_below BK7.out hb); clear BK7; have BK7 := n_; clear n_; have n_ := Aside0.mk (below_step (by repeat (first | (with_reducible first | exact HB2.out | apply below_alloc | apply pw_below_drewN | apply below_drew1) | exact HB2.out)) hb); clear HB2; have HB2 := n_; clear n_; have RA2 : Aside0 (Kd.V k26 26 w_g9 w.heap.size (fun k_ => w.heap.size ≤ k_ ∧ k_ ≠ g6 ∧ k_ ≠ g7 ∧ k_ ≠ g9) (.slice Aa r1.length ca) r1) := ⟨Kd.V_below (Kd.V_mono (Kd.V_bound RA.out) (fun k_ hk => ⟨hk.1.1, hk.1.2.1, hk.1.2.2, by rw [hg]; exact Nat.ne_of_lt hk.2⟩)) hb⟩; clear RA; have hcz_0 : w_g9.cell? ⟨g9, 0, none⟩ = some (.slice none 0 0) := (blk_cell BK9.out 0).trans rfl; have hcz_1 : w_g9.cell? ⟨g9, 1, none⟩ = some (.slice none 0 0) := (blk_cell BK9.out 1).trans rfl; have hfz_0 := blk_frozen BK9.out 0; have hfz_1 := blk_frozen BK9.out 1; clear hb hbox hg) | ((with_reducible refine gate_store (t := 30) (p := 9) rfl ?_); refine store_event (t := 30) (p := 9) (v := ?vo9) (w1 := ((w_g9.setCell ⟨g9, 0, none⟩ (.slice Aa r1.length ca)).setCell ⟨g9, 1, none⟩ (.slice none 0 0))) ?hg ?ho ?hn ?hr ?_; (case ho => rfl); (case hg => rfl); (case hn => rfl); (case hr => first | (go_simp; done) | (go_simp; rfl)); intro wsg9 hw; have n_ : Aside0 (wsg9.heap[g3]? = some (.cells #[.slice A0 xs.length c0, .slice A1 ys.length c1] 30 (0, 0))) := ⟨by rw [hw]; exact blk_far (blk_far BK3.out DBK9_BK3.out _) DBK9_BK3.out _⟩; clear BK3; have BK3 := n_; clear n_; have n_ : Aside0 (wsg9.heap[g6]? = some (.cells #[.slice none 0 0, .slice none 0 0] 30 (0, 0))) := ⟨by rw [hw]; exact blk_far (blk_far BK6.out DBK9_BK6.out _) DBK9_BK6.out _⟩; clear BK6; have BK6 := n_; clear n_; have n_ : Aside0 (wsg9.heap[g7]? = some (.cells #[.slice none 0 0, .slice none 0 0] 30 (0, 0))) := ⟨by rw [hw]; exact blk_far (blk_far BK7.out DBK9_BK7.out _) DBK9_BK7.out _⟩; clear BK7; have BK7 := n_; clear n_; have n_ : Aside0 (wsg9.heap[g9]? = some (.cells #[(.slice Aa r1.length ca), .slice none 0 0] 30 (0, 0))) := ⟨by rw [hw]; exact blk_put (blk_put (cs' := #[(.slice Aa r1.length ca), .slice none 0 0]) BK9.out 0 _ rfl) 1 _ rfl⟩; clear BK9; have BK9 := n_; clear n_; have n_ : Aside0 (Kd.V k26 26 wsg9 w.heap.size (fun k_ => w.heap.size ≤ k_ ∧ k_ ≠ g6 ∧ k_ ≠ g7 ∧ k_ ≠ g9) (.slice Aa r1.length ca) r1) := ⟨by rw [hw]; exact Kd.V_far (Kd.V_far RA2.out (fun _ hk => hk.2.2.2) _) (fun _ hk => hk.2.2.2) _⟩; clear RA2; have RA := n_; clear n_; have n_ : Aside0 (Below w.heap.size w wsg9) := ⟨by rw [hw]; exact below_set (below_set HB.out GBK9.out) GBK9.out⟩; clear HB; have HB := n_; clear n_; have n_ : Aside0 (Below wl.heap.size wl wsg9) := ⟨by rw [hw]; exact below_set (below_set HB2.out HS9.out) HS9.out⟩; clear HB2; have HB2 := n_; clear n_ hcz_0 hcz_1 hfz_0 hfz_1; clear hw) | go_in)
 go_upto_region 4 with (first | ((with_reducible refine gate_callee (f := 34) rfl ?_); refine goesL_ (some 24) rfl rfl Try.func34 (by kernel_rfl) rfl #[.slice Ad ld.length (cl - at_.toNat)] rfl (by (try simp only [List.map_toArray, List.map_cons, List.map_nil]); first | done | rfl | (simp only [List.length_drop, List.length_take]; rfl)) ?_; (with_reducible refine (chancelref04_spans.calls k _ _ ld r3 _ ?side1 ?side2 HBB.out).mono ?_); (case side1 => exact Kd.C_below hC2.out HB2.out); (case side2 => exact hL2.out); rintro e wq ⟨v_, rfl, ho, hb⟩; refine ⟨_, rfl, ?_⟩; obtain ⟨Ab, cb, eb⟩ := Kd.R_slice ho; subst eb; have RB : Aside0 (Kd.V k26 26 wq w.heap.size (fun k_ => w.heap.size ≤ k_ ∧ k_ ≠ g6 ∧ k_ ≠ g7 ∧ k_ ≠ g9) (.slice Ab r3.length cb) r3) := ⟨Kd.V_mono (Kd.R_V (Kd.R_bound ho)) (fun k_ hk => by have h1 := hk.2.1; have h2 := blk_lt BK6.out; have h3 := blk_lt BK7.out; have h5 := blk_lt BK9.out; have h4 := below_size HB.out; exact ⟨by omega, by omega, by omega, by omega⟩)⟩; have n_ := Aside0.mk (Kd.V_below RA.out hb); clear RA; have RA := n_; clear n_; have n_ := Aside0.mk (blk_below BK3.out hb); clear BK3; have BK3 := n_; clear n_; have n_ := Aside0.mk (blk_below BK6.out hb); clear BK6; have BK6 := n_; clear n_; have n_ := Aside0.mk (blk_below BK7.out hb); clear BK7; have BK7 := n_; clear n_; have n_ := Aside0.mk (blk_below BK9.out hb); clear BK9; have BK9 := n_; clear n_; have n_ := Aside0.mk (below_step (by repeat (first | (with_reducible first | exact HB.out | apply below_alloc | apply pw_below_drewN | apply below_drew1) | exact HB.out)) hb); clear HB; have HB := n_; clear n_; clear hb ho) | ((with_reducible refine gate_dst (N := 10) rfl ?_); refine box_event ?hg (N := 10) ?hd (cs := #[.slice none 0 0, .slice none 0 0]) (t := 30) ?hr ?_; (case hd => rfl); (case hg => rfl); (case hr => first | (go_simp; done) | (go_simp; rfl)); intro g10 hg w_g10 hbox hb; have DBK10_BK3 := Aside0.mk ((by rw [hg]; exact Nat.ne_of_lt (blk_lt BK3.out)) : g3 ≠ g10); have DBK10_BK6 := Aside0.mk ((by rw [hg]; exact Nat.ne_of_lt (blk_lt BK6.out)) : g6 ≠ g10); have DBK10_BK7 := Aside0.mk ((by rw [hg]; exact Nat.ne_of_lt (blk_lt BK7.out)) : g7 ≠ g10); have DBK10_BK9 := Aside0.mk ((by rw [hg]; exact Nat.ne_of_lt (blk_lt BK9.out)) : g9 ≠ g10); have BK10 := Aside0.mk hbox; have GBK10 := Aside0.mk ((by rw [hg]; exact below_size (by repeat (first | (with_reducible first | exact HB.out | apply below_alloc | apply pw_below_drewN | apply below_drew1) | exact HB.out))) : w.heap.size ≤ g10); have n_ := Aside0.mk (below_step (by repeat (first | (with_reducible first | exact HB.out | apply below_alloc | apply pw_below_drewN | apply below_drew1) | exact HB.out)) hb); clear HB; have HB := n_; clear n_; have n_ := Aside0.mk (blk_below BK3.out hb); clear BK3; have BK3 := n_; clear n_; have n_ := Aside0.mk (blk_below BK6.out hb); clear BK6; have BK6 := n_; clear n_; have n_ := Aside0.mk (blk_below BK7.out hb); clear BK7; have BK7 := n_; clear n_; have n_ := Aside0.mk (blk_below BK9.out hb); clear BK9; have BK9 := n_; clear n_; have n_ : Aside0 (Kd.V k26 26 w_g10 w.heap.size (OKp w g6 g7 g9 g10) (.slice Aa r1.length ca) r1) := ⟨Kd.V_below (Kd.V_mono (Kd.V_bound RA.out) (fun k_ hk => ⟨hk.1.1, hk.1.2.1, hk.1.2.2.1, hk.1.2.2.2, by rw [hg]; exact Nat.ne_of_lt hk.2⟩)) hb⟩; clear RA; have RA := n_; clear n_; have n_ : Aside0 (Kd.V k26 26 w_g10 w.heap.size (OKp w g6 g7 g9 g10) (.slice Ab r3.length cb) r3) := ⟨Kd.V_below (Kd.V_mono (Kd.V_bound RB.out) (fun k_ hk => ⟨hk.1.1, hk.1.2.1, hk.1.2.2.1, hk.1.2.2.2, by rw [hg]; exact Nat.ne_of_lt hk.2⟩)) hb⟩; clear RB; have RB := n_; clear n_; have hcz_0 : w_g10.cell? ⟨g10, 0, none⟩ = some (.slice none 0 0) := (blk_cell BK10.out 0).trans rfl; have hcz_1 : w_g10.cell? ⟨g10, 1, none⟩ = some (.slice none 0 0) := (blk_cell BK10.out 1).trans rfl; have hfz_0 := blk_frozen BK10.out 0; have hfz_1 := blk_frozen BK10.out 1; clear hb hbox hg) | ((with_reducible refine gate_store (t := 30) (p := 10) rfl ?_); refine store_event (t := 30) (p := 10) (v := ?vo10) (w1 := ((w_g10.setCell ⟨g10, 0, none⟩ (.slice Ab r3.length cb)).setCell ⟨g10, 1, none⟩ (.slice none 0 0))) ?hg ?ho ?hn ?hr ?_; (case ho => rfl); (case hg => rfl); (case hn => rfl); (case hr => first | (go_simp; done) | (go_simp; rfl)); intro wsg10 hw; have n_ : Aside0 (wsg10.heap[g3]? = some (.cells #[.slice A0 xs.length c0, .slice A1 ys.length c1] 30 (0, 0))) := ⟨by rw [hw]; exact blk_far (blk_far BK3.out DBK10_BK3.out _) DBK10_BK3.out _⟩; clear BK3; have BK3 := n_; clear n_; have n_ : Aside0 (wsg10.heap[g6]? = some (.cells #[.slice none 0 0, .slice none 0 0] 30 (0, 0))) := ⟨by rw [hw]; exact blk_far (blk_far BK6.out DBK10_BK6.out _) DBK10_BK6.out _⟩; clear BK6; have BK6 := n_; clear n_; have n_ : Aside0 (wsg10.heap[g7]? = some (.cells #[.slice none 0 0, .slice none 0 0] 30 (0, 0))) := ⟨by rw [hw]; exact blk_far (blk_far BK7.out DBK10_BK7.out _) DBK10_BK7.out _⟩; clear BK7; have BK7 := n_; clear n_; have n_ : Aside0 (wsg10.heap[g9]? = some (.cells #[(.slice Aa r1.length ca), .slice none 0 0] 30 (0, 0))) := ⟨by rw [hw]; exact blk_far (blk_far BK9.out DBK10_BK9.out _) DBK10_BK9.out _⟩; clear BK9; have BK9 := n_; clear n_; have n_ : Aside0 (wsg10.heap[g10]? = some (.cells #[(.slice Ab r3.length cb), .slice none 0 0] 30 (0, 0))) := ⟨by rw [hw]; exact blk_put (blk_put (cs' := #[(.slice Ab r3.length cb), .slice none 0 0]) BK10.out 0 _ rfl) 1 _ rfl⟩; clear BK10; have BK10 := n_; clear n_; have n_ : Aside0 (Kd.V k26 26 wsg10 w.heap.size (OKp w g6 g7 g9 g10) (.slice Aa r1.length ca) r1) := ⟨by rw [hw]; exact Kd.V_far (Kd.V_far RA.out (fun _ hk => hk.2.2.2.2) _) (fun _ hk => hk.2.2.2.2) _⟩; clear RA; have RA := n_; clear n_; have n_ : Aside0 (Kd.V k26 26 wsg10 w.heap.size (OKp w g6 g7 g9 g10) (.slice Ab r3.length cb) r3) := ⟨by rw [hw]; exact Kd.V_far (Kd.V_far RB.out (fun _ hk => hk.2.2.2.2) _) (fun _ hk => hk.2.2.2.2) _⟩; clear RB; have RB := n_; clear n_; have n_ : Aside0 (Below w.heap.size w wsg10) := ⟨by rw [hw]; exact below_set (below_set HB.out GBK10.out) GBK10.out⟩; clear HB; have HB := n_; clear n_ hcz_0 hcz_1 hfz_0 hfz_1; clear hw) | go_in)
 have HD := Aside0.mk (Bs.mk (w := w) GBK3.out GBK6.out GBK7.out GBK9.out GBK10.out DBK9_BK3.out DBK10_BK3.out DBK9_BK6.out DBK10_BK6.out DBK9_BK7.out DBK10_BK7.out DBK10_BK9.out)
 have HSt := Aside0.mk (St.mk (m0 := .slice A0 xs.length c0) (m1 := .slice A1 ys.length c1) (va := (.slice Aa r1.length ca)) (sa := .slice none 0 0) (vb := (.slice Ab r3.length cb)) (sb := .slice none 0 0) (xa := []) (xb := []) BK3.out BK6.out BK7.out BK9.out BK10.out RA.out (Kd.V_nil _ _ _ _ _) RB.out (Kd.V_nil _ _ _ _ _) HB.out)
 clear BK3 BK6 BK7 BK9 BK10 RA RB HB HB2 GBK3 GBK6 GBK7 GBK9 GBK10 DBK9_BK3 DBK10_BK3 DBK9_BK6 DBK10_BK6 DBK9_BK7 DBK10_BK7 DBK10_BK9 hcut1 hcut2 hC1 hC2 hL1 hL2 HL HA HBB HE
 go_wp2
 go_loopg [11] k (fun kq v11 w' => ∃ (i : Int) (sa sb : Value) (xa xb : List S38), v11 = .int .i64 i ∧ Aside0 (chancelref04_Part.l0 kq at_ ys i xa xb = some (r2, r4)) ∧ Aside0 (kq ≤ k) ∧ Aside0 (St w g3 g6 g7 g9 g10 (.slice A0 xs.length c0) (.slice A1 ys.length c1) (.slice Aa r1.length ca) sa (.slice Ab r3.length cb) sb r1 xa r3 xb w'))
 case atStart => exact ⟨0, _, _, [], [], rfl, HS, ⟨Nat.le_refl _⟩, HSt⟩
 case round =>
  clear HS HSt
  obtain ⟨i, sa, sb, xa, xb, rfl, HA, HK, HSt⟩ := hrel
  have q3_1 : wr.cell? ⟨g3, 1, none⟩ = some (.slice A1 ys.length c1) := (blk_cell HSt.out.b3 1).trans rfl
  cases gk with
  | zero => exact absurd HA.out (by simp [chancelref04_Part.l0])
  | succ k1 =>
   have H := HA.out
   clear HA
   simp only [chancelref04_Part.l0] at H
   by_cases c1_ : i < (ys.length : Int)
   ·rw [if_pos c1_] at H
    have c1b : decide (i < (ys.length : Int)) = true := decide_eq_true c1_
    by_cases c2_ : 0 ≤ i
    ·rw [if_pos c2_] at H
     have c2b : decide (0 ≤ i) = true := decide_eq_true c2_
     obtain ⟨ad, e_, hx0, hx1⟩ := at_T38 HR1.out i c2_ c1_
     cases e_
     replace hx0 := (HSt.out.bel.cell (World.block_lt_of_cell? w _ hx0)).trans hx0
     replace hx1 := (HSt.out.bel.cell (World.block_lt_of_cell? w _ hx1)).trans hx1
     have p1_ := eq_true c1_
     have p2_ := eq_true c2_
     obtain ⟨As, cs, es⟩ := Kd.V_slice HSt.out.ya
     obtain ⟨At, ct, et⟩ := Kd.V_slice HSt.out.yb
     subst es; subst et
     clear c1_ c2_
     by_cases c3_ : (rd_T38 ys i).f1 ≤ at_
     ·rw [if_pos c3_] at H
      have c3b : decide ((rd_T38 ys i).f1 ≤ at_) = true := decide_eq_true c3_
      clear c3_
      obtain ⟨xc, HC0_, H⟩ := Option.bind_eq_some_iff.mp H
      have HCC := Aside0.mk HC0_
      have HH := Aside0.mk H
      clear HC0_ H
      go_wp2_with (first | ((with_reducible refine gate_dst (N := 12) rfl ?_); refine box_event ?hg (N := 12) ?hd (cs := #[.int .i64 0, .int .i64 0]) (t := 38) ?hr ?_; (case hd => rfl); (case hg => rfl); (case hr => first | (go_simp; done) | (go_simp; rfl)); intro g12 hg w_g12 hbox hb; have HG12 := Aside0.mk ((by rw [hg]; exact Nat.le_refl _) : wr.heap.size ≤ g12); have HBx := Aside0.mk hb; have BK12 := Aside0.mk hbox; have hcz_0 : w_g12.cell? ⟨g12, 0, none⟩ = some (.int .i64 0) := (blk_cell BK12.out 0).trans rfl; have hcz_1 : w_g12.cell? ⟨g12, 1, none⟩ = some (.int .i64 0) := (blk_cell BK12.out 1).trans rfl; have hfz_0 := blk_frozen BK12.out 0; have hfz_1 := blk_frozen BK12.out 1; clear hb hbox hg) | ((with_reducible refine gate_store (t := 38) (p := 12) rfl ?_); refine store_event (t := 38) (p := 12) (v := ?vo12a) (w1 := ((w_g12.setCell ⟨g12, 0, none⟩ (.int .i64 (rd_T38 ys i).f0)).setCell ⟨g12, 1, none⟩ (.int .i64 (rd_T38 ys i).f1))) ?hg ?ho ?hn ?hr ?_; (case ho => rfl); (case hg => rfl); (case hn => rfl); (case hr => first | (go_simp; done) | (go_simp; rfl)); intro ws12 hw; have n_ : Aside0 (ws12.heap[g12]? = some (.cells #[(.int .i64 (rd_T38 ys i).f0), (.int .i64 (rd_T38 ys i).f1)] 38 (0, 0))) := ⟨by rw [hw]; exact blk_put (blk_put (cs' := #[(.int .i64 (rd_T38 ys i).f0), .int .i64 0]) BK12.out 0 _ rfl) 1 _ rfl⟩; clear BK12; have BK12 := n_; clear n_; have n_ := Aside0.mk (St.next HSt.out (W' := ws12) (by rw [hw]; exact below_set (below_set HBx.out HG12.out) HG12.out)); clear HSt hcz_0 hcz_1 hfz_0 hfz_1; have HSt := n_; clear n_ hw; have q12_0 : ws12.cell? ⟨g12, 0, none⟩ = some (.int .i64 (rd_T38 ys i).f0) := (blk_cell BK12.out 0).trans rfl; have q12_1 : ws12.cell? ⟨g12, 1, none⟩ = some (.int .i64 (rd_T38 ys i).f1) := (blk_cell BK12.out 1).trans rfl; have q9_1 : ws12.cell? ⟨g9, 1, none⟩ = some (.slice As xa.length cs) := (blk_cell HSt.out.b9 1).trans rfl; have q10_1 : ws12.cell? ⟨g10, 1, none⟩ = some (.slice At xb.length ct) := (blk_cell HSt.out.b10 1).trans rfl) | ((with_reducible refine gate_callee (f := 35) rfl ?_); refine goesL_ (some 45) rfl rfl Try.func35 (by kernel_rfl) rfl #[.slice As xa.length cs, .agg #[(.int .i64 (rd_T38 ys i).f0), .int .i64 (rd_T38 ys i).f1]] rfl (by (try simp only [List.map_toArray, List.map_cons, List.map_nil]); first | done | rfl | (simp only [List.length_drop, List.length_take]; rfl)) ?_; (with_reducible refine (chancelref04_site.calls k1 (OKp w g6 g7 g9 g10) _ _ xa (rd_T38 ys i).f0 (rd_T38 ys i).f1 xc _ ?side1 HCC.out).mono ?_); (case side1 => exact HSt.out.ya); rintro e wq ⟨v_, rfl, ho, hb⟩; refine ⟨_, rfl, ?_⟩; obtain ⟨Au, cu, eu⟩ := Kd.V_slice ho; subst eu; have HV := Aside0.mk (OKp.site HSt.out ho); have n_ := Aside0.mk (St.next HSt.out hb); clear HSt; have HSt := n_; clear n_ hb ho; have hcy : wq.cell? ⟨g9, 1, none⟩ = some (.slice As xa.length cs) := (blk_cell HSt.out.b9 1).trans rfl; have hfy := blk_frozen HSt.out.b9 1) | go_in)
      go_roundg k1
      case measure => have := HK.out; omega
      case rel => exact ⟨_, _, _, xc, xb, rfl, HH, ⟨by have := HK.out; omega⟩, ⟨St.put9 HSt.out HD.out HV.out⟩⟩
     ·rw [if_neg c3_] at H
      have c3b : decide ((rd_T38 ys i).f1 ≤ at_) = false := decide_eq_false c3_
      clear c3_
      obtain ⟨xc, HC0_, H⟩ := Option.bind_eq_some_iff.mp H
      have HCC := Aside0.mk HC0_
      have HH := Aside0.mk H
      clear HC0_ H
      go_wp2_with (first | ((with_reducible refine gate_dst (N := 12) rfl ?_); refine box_event ?hg (N := 12) ?hd (cs := #[.int .i64 0, .int .i64 0]) (t := 38) ?hr ?_; (case hd => rfl); (case hg => rfl); (case hr => first | (go_simp; done) | (go_simp; rfl)); intro g12 hg w_g12 hbox hb; have HG12 := Aside0.mk ((by rw [hg]; exact Nat.le_refl _) : wr.heap.size ≤ g12); have HBx := Aside0.mk hb; have BK12 := Aside0.mk hbox; have hcz_0 : w_g12.cell? ⟨g12, 0, none⟩ = some (.int .i64 0) := (blk_cell BK12.out 0).trans rfl; have hcz_1 : w_g12.cell? ⟨g12, 1, none⟩ = some (.int .i64 0) := (blk_cell BK12.out 1).trans rfl; have hfz_0 := blk_frozen BK12.out 0; have hfz_1 := blk_frozen BK12.out 1; clear hb hbox hg) | ((with_reducible refine gate_store (t := 38) (p := 12) rfl ?_); refine store_event (t := 38) (p := 12) (v := ?vo12b) (w1 := ((w_g12.setCell ⟨g12, 0, none⟩ (.int .i64 (rd_T38 ys i).f0)).setCell ⟨g12, 1, none⟩ (.int .i64 (rd_T38 ys i).f1))) ?hg ?ho ?hn ?hr ?_; (case ho => rfl); (case hg => rfl); (case hn => rfl); (case hr => first | (go_simp; done) | (go_simp; rfl)); intro ws12 hw; have n_ : Aside0 (ws12.heap[g12]? = some (.cells #[(.int .i64 (rd_T38 ys i).f0), (.int .i64 (rd_T38 ys i).f1)] 38 (0, 0))) := ⟨by rw [hw]; exact blk_put (blk_put (cs' := #[(.int .i64 (rd_T38 ys i).f0), .int .i64 0]) BK12.out 0 _ rfl) 1 _ rfl⟩; clear BK12; have BK12 := n_; clear n_; have n_ := Aside0.mk (St.next HSt.out (W' := ws12) (by rw [hw]; exact below_set (below_set HBx.out HG12.out) HG12.out)); clear HSt hcz_0 hcz_1 hfz_0 hfz_1; have HSt := n_; clear n_ hw; have q12_0 : ws12.cell? ⟨g12, 0, none⟩ = some (.int .i64 (rd_T38 ys i).f0) := (blk_cell BK12.out 0).trans rfl; have q12_1 : ws12.cell? ⟨g12, 1, none⟩ = some (.int .i64 (rd_T38 ys i).f1) := (blk_cell BK12.out 1).trans rfl; have q9_1 : ws12.cell? ⟨g9, 1, none⟩ = some (.slice As xa.length cs) := (blk_cell HSt.out.b9 1).trans rfl; have q10_1 : ws12.cell? ⟨g10, 1, none⟩ = some (.slice At xb.length ct) := (blk_cell HSt.out.b10 1).trans rfl) | ((with_reducible refine gate_callee (f := 35) rfl ?_); refine goesL_ (some 56) rfl rfl Try.func35 (by kernel_rfl) rfl #[.slice At xb.length ct, .agg #[(.int .i64 (rd_T38 ys i).f0), .int .i64 (wrap64 ((rd_T38 ys i).f1 - at_))]] rfl (by (try simp only [List.map_toArray, List.map_cons, List.map_nil]); first | done | rfl | (simp only [List.length_drop, List.length_take]; rfl)) ?_; (with_reducible refine (chancelref04_site.calls k1 (OKp w g6 g7 g9 g10) _ _ xb (rd_T38 ys i).f0 (wrap64 ((rd_T38 ys i).f1 - at_)) xc _ ?side1 HCC.out).mono ?_); (case side1 => exact HSt.out.yb); rintro e wq ⟨v_, rfl, ho, hb⟩; refine ⟨_, rfl, ?_⟩; obtain ⟨Au, cu, eu⟩ := Kd.V_slice ho; subst eu; have HV := Aside0.mk (OKp.site HSt.out ho); have n_ := Aside0.mk (St.next HSt.out hb); clear HSt; have HSt := n_; clear n_ hb ho; have hcy : wq.cell? ⟨g10, 1, none⟩ = some (.slice At xb.length ct) := (blk_cell HSt.out.b10 1).trans rfl; have hfy := blk_frozen HSt.out.b10 1) | go_in)
      go_roundg k1
      case measure => have := HK.out; omega
      case rel => exact ⟨_, _, _, xa, xc, rfl, HH, ⟨by have := HK.out; omega⟩, ⟨St.put10 HSt.out HD.out HV.out⟩⟩
    ·rw [if_neg c2_] at H
     exact absurd H (by simp)
   ·rw [if_neg c1_] at H
    have c1b : decide (i < (ys.length : Int)) = false := decide_eq_false c1_
    clear c1_
    injection H with H
    injection H with e1_ e2_
    subst e1_; subst e2_
    go_upto_region 11 with go_in
    obtain ⟨As, cs, es⟩ := Kd.V_slice HSt.out.ya
    obtain ⟨At, ct, et⟩ := Kd.V_slice HSt.out.yb
    subst es; subst et
    have hsf := (HSt.out.fin).sf
    have hfin := Aside0.mk HSt.out.fin
    have hb6 := Aside0.mk HSt.out.b6
    have hb7 := Aside0.mk HSt.out.b7
    clear HSt HK q3_1 HR0 HC0 HR1 HC1 h0 hl
    have hn1 := HD.out.d69; have hn2 := HD.out.d610; have hn3 := HD.out.d79; have hn4 := HD.out.d710; have hn5 := HD.out.d69.symm; have hn6 := HD.out.d610.symm; have hn7 := HD.out.d79.symm; have hn8 := HD.out.d710.symm; have hn9 := DBK7_BK6.out; have hn10 := DBK7_BK6.out.symm
    go_region_held3 (fun w' => SF w g6 g7 g9 g10 (.slice Aa r1.length ca) (.slice As xa.length cs) (.slice Ab r3.length cb) (.slice At xb.length ct) r1 xa r3 xb w')
     (first | exact hsf | (refine FinS.sf (w := w) (r1 := r1) (xa := xa) (r3 := r3) (xb := xb) ?_; repeat (first | exact hfin.out | with_reducible refine FinS.next ?_ (below_drew1 (Below.refl _ _)) | with_reducible refine FinS.set7 ?_ HD.out DBK7_BK6.out _ _ | with_reducible refine FinS.set6 ?_ HD.out DBK7_BK6.out _ _)))
     (fail)
    all_goals
     go_wp2
     have h6 := blk_drew (blk_far (blk_far (blk_put (cs' := #[(.slice Aa r1.length ca), .slice As xa.length cs]) (blk_put (cs' := #[(.slice Aa r1.length ca), .slice none 0 0]) hb6.out 0 (.slice Aa r1.length ca) rfl) 1 (.slice As xa.length cs) rfl) (p := ⟨g7, 0, none⟩) DBK7_BK6.out (.slice Ab r3.length cb)) (p := ⟨g7, 1, none⟩) DBK7_BK6.out (.slice At xb.length ct))
     have h7 := blk_drew (blk_put (cs' := #[(.slice Ab r3.length cb), .slice At xb.length ct]) (blk_put (cs' := #[(.slice Ab r3.length cb), .slice none 0 0]) (blk_far (blk_far hb7.out (p := ⟨g6, 0, none⟩) DBK7_BK6.out.symm (.slice Aa r1.length ca)) (p := ⟨g6, 1, none⟩) DBK7_BK6.out.symm (.slice As xa.length cs)) 0 (.slice Ab r3.length cb) rfl) 1 (.slice At xb.length ct) rfl)
     have hF := ((hfin.out.set6 HD.out DBK7_BK6.out (.slice Aa r1.length ca) (.slice As xa.length cs)).set7 HD.out DBK7_BK6.out (.slice Ab r3.length cb) (.slice At xb.length ct)).next (below_drew1 (Below.refl _ _))
     refine bodyPost_ret (results_cc rfl _ _ g6 g7 30 30 #[(.slice Aa r1.length ca), .slice As xa.length cs] #[(.slice Ab r3.length cb), .slice At xb.length ct] (0, 0) (0, 0) _ _ rfl h6 Try.underlying30 rfl (by kernel_rfl) rfl h7 Try.underlying30 rfl (by kernel_rfl)) rfl ?_
     exact ⟨_, _, _, _, rfl, Kd.V_mono hF.ra (fun _ hk => hk.1), Kd.V_mono hF.ya (fun _ hk => hk.1), Kd.V_mono hF.rb (fun _ hk => hk.1), Kd.V_mono hF.yb (fun _ hk => hk.1), hF.bel⟩

theorem chancelref04_Part.calls (k : Nat) (P0_0_ : Nat → Prop) (A0_0 : Option Addr) (c0_0 : Nat) (l0_0 : List (S26)) (P0_1_ : Nat → Prop) (A0_1 : Option Addr) (c0_1 : Nat) (l0_1 : List (S38)) (a1 : Int) (a2 : Int) (r1 : List (S26)) (r2 : List (S38)) (r3 : List (S26)) (r4 : List (S38)) (w : World) (hs0_0 : Kd.V k26 26 w w.heap.size (fun k_ => P0_0_ k_) (.slice A0_0 l0_0.length c0_0) l0_0) (hs0_1 : Kd.V k38 38 w w.heap.size (fun k_ => P0_1_ k_) (.slice A0_1 l0_1.length c0_1) l0_1) (h : chancelref04_Part.f k l0_0 l0_1 a1 a2 = some (r1, r2, r3, r4)) :
  Calls Try.prog 20 #[.agg #[.slice A0_0 l0_0.length c0_0, .slice A0_1 l0_1.length c0_1], .int .i64 a1, .int .i64 a2] w fun e w' => ∃ v0_ v1_ v2_ v3_ : Value, e = .returned (.tuple #[.agg #[v0_, v1_], .agg #[v2_, v3_]]) ∧ Kd.V k26 26 w' w.heap.size (fun k_ => ((P0_0_ k_ ∨ P0_1_ k_) ∨ w.heap.size ≤ k_)) v0_ r1 ∧ Kd.V k38 38 w' w.heap.size (fun k_ => ((P0_0_ k_ ∨ P0_1_ k_) ∨ w.heap.size ≤ k_)) v1_ r2 ∧ Kd.V k26 26 w' w.heap.size (fun k_ => ((P0_0_ k_ ∨ P0_1_ k_) ∨ w.heap.size ≤ k_)) v2_ r3 ∧ Kd.V k38 38 w' w.heap.size (fun k_ => ((P0_0_ k_ ∨ P0_1_ k_) ∨ w.heap.size ≤ k_)) v3_ r4 ∧ Below w.heap.size w w' := by
 unfold chancelref04_Part.f at h
 obtain ⟨l, he, h⟩ := Option.bind_eq_some_iff.mp h
 by_cases c1 : 0 ≤ a2
 ·rw [if_pos c1] at h
  by_cases c2 : a2 ≤ (l.length : Int)
  ·rw [if_pos c2] at h
   obtain ⟨x, ha, h⟩ := Option.bind_eq_some_iff.mp h
   obtain ⟨y, hb, h⟩ := Option.bind_eq_some_iff.mp h
   obtain ⟨⟨p, q⟩, hs, h⟩ := Option.bind_eq_some_iff.mp h
   simp only [Option.some.injEq, Prod.mk.injEq] at h
   obtain ⟨rfl, rfl, rfl, rfl⟩ := h
   refine (part20 k w _ _ _ _ _ _ a1 a2 l x y p q (Kd.V_reads' hs0_0).2.2 (Kd.V_reads' hs0_0).2.1 (Kd.V_reads' hs0_1).2.2 (Kd.V_reads' hs0_1).2.1 he c1 c2 ha hb hs).mono fun e w' hp => ?_
   obtain ⟨v0, v1, v2, v3, e0, h0, h1, h2, h3, hB⟩ := hp
   exact ⟨v0, v1, v2, v3, e0, Kd.V_mono h0 (fun _ hk => .inr hk), Kd.V_mono h1 (fun _ hk => .inr hk), Kd.V_mono h2 (fun _ hk => .inr hk), Kd.V_mono h3 (fun _ hk => .inr hk), hB⟩
  ·rw [if_neg c2] at h
   cases h
 ·rw [if_neg c1] at h
  cases h
end Go.Proofs.Ytdgjjdpeaohebaa.PMarksPart
