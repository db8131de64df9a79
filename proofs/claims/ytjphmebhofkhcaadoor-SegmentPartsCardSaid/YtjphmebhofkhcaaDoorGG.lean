/- Segments: places, cuts of a text. Conditions: texts of at most 2^40 bytes, spans and sites. -/
import Derived.Test.YtjphmebhofkhcaaDoorGF
import Derived.Test.YtjphmebhofkhcaaDoorPSegAllx11
import Derived.Test.YtjphmebhofkhcaaDoorGD
import Derived.Deep.RegionHeld3
namespace Go.Proofs.YtjphmebhofkhcaaDoor.Seg
open Go.RowKit Go.Proofs.YtjphmebhofkhcaaDoorPl Go.Proofs.YtjphmebhofkhcaaDoorW.PrintWords Go.Proofs.YtjphmebhofkhcaaDoorW.PrintLast Go.Proofs.YtjphmebhofkhcaaDoorW.PrintMore Go.Proofs.YtjphmebhofkhcaaDoor.Rope Go.Proofs.YtjphmebhofkhcaaDoor.PSegAll Go.Proofs.YtjphmebhofkhcaaDoor.Pure
set_option linter.unusedVariables false
set_option linter.unusedSimpArgs false
attribute [local go_sem] max2_int min2_int max_two min_two
/-- How many letters from a place on. -/
def lenI (c a n : Int) : Int := if c - a < (if n < 0 then 0 else n) then c - a else (if n < 0 then 0 else n)
theorem len_in {c a n : Int} (h : a ≤ c) : 0 ≤ lenI c a n ∧ a + lenI c a n ≤ c := by unfold lenI; (repeat' split) <;> omega
theorem cut_rp {w : World} {p : Option Addr} {s : ByteArray} (a b : Int) (h : Rp w p s) :
  Calls Tryd.prog 53 #[.pointer p, .int .i64 a, .int .i64 b] w fun e w' => ∃ r, e = .returned (.pointer r) ∧ Rp w' r (cutT s a b) ∧ Below w.heap.size w w' := by
 obtain ⟨t1, cs, hi, hs⟩ := h
 refine (cut_is a b hi).mono ?_
 rintro e w' ⟨v, rfl, hv, hb⟩
 obtain ⟨r, rfl, hr⟩ := hv.rp (s := cutT s a b) (by unfold cutT; rw [ofL_data, lets_eq hi.g.letts hs])
 exact ⟨r, rfl, hr, hb⟩
set_option maxRecDepth 100000 in
set_option maxHeartbeats 2000000 in
theorem places_calls (x : G) (p A : Option Addr) (c : Nat) (B : Option Addr) (d : Nat) (a n : Int) (w : World) (hr : Rp w p x.f2) (hz : x.f2.size ≤ 1099511627776) :
  Calls Tryd.prog 51 #[.agg (sgC x p A c B d), .int .i64 a, .int .i64 n] w fun e w' => e = .returned (.tuple #[.int .i64 (clampI (cnt x.f2) a), .int .i64 (clampI (cnt x.f2) a + lenI (cnt x.f2) (clampI (cnt x.f2) a) n)]) ∧ Below w.heap.size w w' := by
 obtain ⟨cs, hl, h2⟩ : ∃ cs, Letts cs ∧ x.f2.data.toList = cs.flatten := by obtain ⟨t, cs, hi, hs⟩ := hr; exact ⟨cs, hi.g.letts, hs⟩
 have hin := cnt_in ((validD_iff _).2 ⟨cs, hl, h2⟩) hz
 have hcl := clamp_in (a := a) hin.1
 have hln := len_in (n := n) hcl.2
 obtain ⟨q, hq⟩ : ∃ q, q = clampI (cnt x.f2) a := ⟨_, rfl⟩
 obtain ⟨m, hm⟩ : ∃ m, m = cnt x.f2 := ⟨_, rfl⟩
 rw [← hm] at hin hcl hln hq ⊢
 rw [← hq] at hcl hln ⊢
 obtain ⟨e1, he1⟩ : ∃ z, (if n < 0 then (0 : Int) else n) = z := ⟨_, rfl⟩
 obtain ⟨e2, he2⟩ : ∃ z, (if m - q < e1 then m - q else e1) = z := ⟨_, rfl⟩
 have el : lenI m q n = e2 := by unfold lenI; rw [he1]; exact he2
 rw [el] at hln ⊢
 have wa_ : IntKind.i64.wrap (m - q) = m - q := IntWalk.i64_in _ (by omega)
 have wb_ : IntKind.i64.wrap (q + e2) = q + e2 := IntWalk.i64_in _ (by omega)
 have HN := Lib.hid hm
 have HQ := Lib.hid hq
 have HR := Lib.hid hr
 clear hr hm hq el hl h2 hin hcl hln
 go_enter Tryd.func51, Tryd.ntmps51
 go_upto_region 2 with (go_at_call 42; refine (clampG_calls x p A c B d a _ (HR.out.below (below_alloc (Below.refl _ _) _)) hz).mono ?_; rw [← HN.out, ← HQ.out]; rintro e w1 ⟨rfl, hb1⟩; have B1 := Lib.hid (below_step (below_alloc (Below.refl _ _) _) hb1); have X1 := Lib.hid (blk_below (blk_newS rfl) hb1); clear hb1)
 have x2 := (blk_cell X1.out 2).trans rfl
 go_wp2_with fail
 (go_at_call 36; refine (len_rpb (p := p) (s := x.f2) (HR.out.below B1.out) hz).mono ?_; rw [← HN.out]; rintro e w2 ⟨rfl, hb2⟩)
 go_wp2
 refine bodyPost_ret (results_list (rs := [.tmp 6, .tmp 7]) rfl (by simp) (.tmp (.tmp .nil))) rfl ?_
 exact ⟨rfl, below_step B1.out hb2⟩
theorem cut_le {s : ByteArray} (hv : Lib.validD s.data.toList = true) (a b : Int) : (cutT s a b).size ≤ s.size := by
 unfold cutT
 rw [ofL_size, ← toList_size s, (lets_ok hv).2]
 have e1 : ((lets s).take b.toNat).flatten.length ≤ (lets s).flatten.length := by
  conv => rhs; rw [flatten_take_drop (lets s) b.toNat]
  rw [List.length_append]
  omega
 have e2 : (((lets s).take b.toNat).drop a.toNat).flatten.length ≤ ((lets s).take b.toNat).flatten.length := by
  conv => rhs; rw [flatten_take_drop ((lets s).take b.toNat) a.toNat]
  rw [List.length_append]
  omega
 omega
theorem abc_one : lets ⟨#[97, 98, 99]⟩ = [[97], [98], [99]] := lets_ascii ⟨#[97, 98, 99]⟩ (by decide)
theorem abc_cnt : cnt ⟨#[97, 98, 99]⟩ = 3 := by rw [cnt_lets (by decide +kernel) (by decide), abc_one]; rfl
end Go.Proofs.YtjphmebhofkhcaaDoor.Seg
/- Segments: marks' parts, and a segment's three parts. Conditions: texts of at most 2^40 bytes, spans and sites. -/
namespace Go.Proofs.YtjphmebhofkhcaaDoor.Seg
open Go.RowKit Go.Proofs.YtjphmebhofkhcaaDoorPl Go.Proofs.YtjphmebhofkhcaaDoorW.PrintWords Go.Proofs.YtjphmebhofkhcaaDoorW.PrintLast Go.Proofs.YtjphmebhofkhcaaDoorW.PrintMore Go.Proofs.YtjphmebhofkhcaaDoor.Rope Go.Proofs.YtjphmebhofkhcaaDoor.PSegAll Go.Proofs.YtjphmebhofkhcaaDoor.Pure
set_option linter.unusedVariables false
set_option linter.unusedSimpArgs false
/-- A pair of rows. -/
abbrev mG (xs : List S67) (ys : List S70) : G := ⟨0, 0, ⟨#[]⟩, xs, ys⟩
theorem part_ev (a : Int) (xs : List S67) (ys : List S70) (hx : xs.length ≤ 1099511627776) (hy : ys.length ≤ 1099511627776) : Go.Proofs.YtjphmebhofkhcaaDoorW.PrintWords.Ev (fun k => marks_Part.f k xs ys a) (partA a xs, sitesA a ys, partB a xs, sitesB a ys) := marks_Part_ev a xs ys (by omega) (by omega)
theorem part4_calls (A : Option Addr) (c : Nat) (xs : List S67) (B : Option Addr) (d : Nat) (ys : List S70) (a : Int) (w : World) (h : TR w (mG xs ys) A c B d) (hx : xs.length ≤ 1099511627776) (hy : ys.length ≤ 1099511627776) :
  Calls Tryd.prog 52 #[.agg #[.slice A xs.length c, .slice B ys.length d], .int .i64 a] w fun e w' => ∃ A1 c1 B1 d1 A2 c2 B2 d2, e = .returned (.tuple #[.agg #[.slice A1 (partA a xs).length c1, .slice B1 (sitesA a ys).length d1], .agg #[.slice A2 (partB a xs).length c2, .slice B2 (sitesB a ys).length d2]]) ∧ TR w' (mG (partA a xs) (sitesA a ys)) A1 c1 B1 d1 ∧ TR w' (mG (partB a xs) (sitesB a ys)) A2 c2 B2 d2 ∧ Below w.heap.size w w' := by
 obtain ⟨k, hk⟩ := Go.Proofs.YtjphmebhofkhcaaDoorW.PrintWords.Ev.rounds (part_ev a xs ys hx hy)
 refine (marks_Part.calls k A c xs B d ys a _ _ _ _ w h.r3 h.c3 h.r4 h.c4 hk).mono ?_
 rintro e w' ⟨v0, v1, v2, v3, rfl, r0, r1, r2, r3, hb⟩
 obtain ⟨A1, c1, e0⟩ := Kd.R_slice r0
 obtain ⟨B1, d1, e1⟩ := Kd.R_slice r1
 obtain ⟨A2, c2, e2⟩ := Kd.R_slice r2
 obtain ⟨B2, d2, e3⟩ := Kd.R_slice r3
 subst e0 e1 e2 e3
 exact ⟨A1, c1, B1, d1, A2, c2, B2, d2, rfl, TR.of (x := mG (partA a xs) (sitesA a ys)) r0 r1, TR.of (x := mG (partB a xs) (sitesB a ys)) r2 r3, hb⟩
/-- What a walk over a segment with three to come keeps. -/
structure P0 (w : World) (x : G) (p A : Option Addr) (c : Nat) (B : Option Addr) (d : Nat) (W : World) : Prop where
 b : Below w.heap.size w W
 h6 : W.heap[w.heap.size]? = some (.cells (sgC x p A c B d) 31 (0, 0))
 h12 : W.heap[w.heap.size + 1]? = some (.cells zC 31 (0, 0))
 h13 : W.heap[w.heap.size + 1 + 1]? = some (.cells zC 31 (0, 0))
 h14 : W.heap[w.heap.size + 1 + 1 + 1]? = some (.cells zC 31 (0, 0))
theorem P0.next {w W W' : World} {x : G} {p A : Option Addr} {c : Nat} {B : Option Addr} {d : Nat} (h : P0 w x p A c B d W) (hb : Below W.heap.size W W') : P0 w x p A c B d W' := ⟨below_step h.b hb, blk_below h.h6 hb, blk_below h.h12 hb, blk_below h.h13 hb, blk_below h.h14 hb⟩
theorem P0.mk4 {w : World} {x : G} {p A : Option Addr} {c : Nat} {B : Option Addr} {d : Nat} : P0 w x p A c B d ((((w.alloc (.cells (sgC x p A c B d) 31 (0, 0))).alloc (.cells zC 31 (0, 0))).alloc (.cells zC 31 (0, 0))).alloc (.cells zC 31 (0, 0))) :=
 ⟨below_alloc (below_alloc (below_alloc (below_alloc (Below.refl _ _) _) _) _) _, blk_below (blk_new w _) (below_alloc (below_alloc (below_alloc (Below.refl _ _) _) _) _), blk_below (blk_newS (by simp)) (below_alloc (below_alloc (Below.refl _ _) _) _), blk_below (blk_newS (by simp)) (below_alloc (Below.refl _ _) _), blk_newS (by simp)⟩
/-- What the last region's loads read, and what its stores leave. -/
structure P4 (w : World) (x : G) (p A : Option Addr) (c : Nat) (B : Option Addr) (d : Nat) (g g' : Nat) (m m' : Array Value) (W : World) : Prop where
 b : Below w.heap.size w W
 h6 : W.heap[w.heap.size]? = some (.cells (sgC x p A c B d) 31 (0, 0))
 h17 : W.heap[g]? = some (.cells m 29 (0, 0))
 h20 : W.heap[g']? = some (.cells m' 29 (0, 0))
theorem P4.next {w W W' : World} {x : G} {p A : Option Addr} {c : Nat} {B : Option Addr} {d g g' : Nat} {m m' : Array Value} (h : P4 w x p A c B d g g' m m' W) (hb : Below W.heap.size W W') : P4 w x p A c B d g g' m m' W' := ⟨below_step h.b hb, blk_below h.h6 hb, blk_below h.h17 hb, blk_below h.h20 hb⟩
theorem P4.set {w W : World} {x : G} {p A : Option Addr} {c : Nat} {B : Option Addr} {d g g' : Nat} {m m' : Array Value} (h : P4 w x p A c B d g g' m m' W) {k : Nat} (h1 : w.heap.size < k) (h2 : k < g) (h3 : k < g') (j : Nat) (u : Value) : P4 w x p A c B d g g' m m' (W.setCell ⟨k, j, none⟩ u) :=
 ⟨below_set h.b (Nat.le_of_lt h1), blk_far h.h6 (Nat.ne_of_lt h1) _, blk_far h.h17 (Nat.ne_of_gt h2) _, blk_far h.h20 (Nat.ne_of_gt h3) _⟩
abbrev PS (w : World) (x : G) (p A : Option Addr) (c : Nat) (B : Option Addr) (d : Nat) (g g' : Nat) (v0 v1 v0' v1' : Value) (W : World) : Prop :=
 W.cell? ⟨w.heap.size, 0, none⟩ = some (.int .i64 x.f0) ∧ W.cell? ⟨w.heap.size, 1, none⟩ = some (.int .i64 x.f1) ∧ W.cell? ⟨w.heap.size, 2, none⟩ = some (.pointer p) ∧ W.cell? ⟨g, 0, none⟩ = some v0 ∧ W.cell? ⟨g, 1, none⟩ = some v1 ∧ W.cell? ⟨g', 0, none⟩ = some v0' ∧ W.cell? ⟨g', 1, none⟩ = some v1' ∧ P4 w x p A c B d g g' #[v0, v1] #[v0', v1'] W
theorem PS.of {w W : World} {x : G} {p A : Option Addr} {c : Nat} {B : Option Addr} {d g g' : Nat} {v0 v1 v0' v1' : Value} (h : P4 w x p A c B d g g' #[v0, v1] #[v0', v1'] W) : PS w x p A c B d g g' v0 v1 v0' v1' W := ⟨(blk_cell h.h6 0).trans rfl, (blk_cell h.h6 1).trans rfl, (blk_cell h.h6 2).trans rfl, (blk_cell h.h17 0).trans rfl, (blk_cell h.h17 1).trans rfl, (blk_cell h.h20 0).trans rfl, (blk_cell h.h20 1).trans rfl, h⟩
theorem P4.five {w W : World} {x : G} {p A : Option Addr} {c : Nat} {B : Option Addr} {d g g' : Nat} {m m' : Array Value} (h : P4 w x p A c B d g g' m m' W) {k : Nat} (h1 : w.heap.size < k) (h2 : k < g) (h3 : k < g') (u0 u1 u2 u3 u4 : Value) :
  P4 w x p A c B d g g' m m' (((((W.setCell ⟨k, 0, none⟩ u0).setCell ⟨k, 1, none⟩ u1).setCell ⟨k, 2, none⟩ u2).setCell ⟨k, 3, none⟩ u3).setCell ⟨k, 4, none⟩ u4) := ((((h.set h1 h2 h3 0 u0).set h1 h2 h3 1 u1).set h1 h2 h3 2 u2).set h1 h2 h3 3 u3).set h1 h2 h3 4 u4
/-- A segment's three parts. -/
noncomputable def pt1 (x : G) (a : Int) : G := ⟨x.f0, x.f1, cutT x.f2 0 a, partA a x.f3, sitesA a x.f4⟩
noncomputable def pt2 (x : G) (a b m l : Int) : G := ⟨m, l, cutT x.f2 a b, [], []⟩
noncomputable def pt3 (x : G) (a b t : Int) : G := ⟨t, x.f1, cutT x.f2 b (cnt x.f2), partB (b - a) (partB a x.f3), sitesB (b - a) (sitesB a x.f4)⟩
theorem partB_length (a : Int) (xs : List S67) : (partB a xs).length ≤ xs.length := by
 have : ∀ (l o : List S67), (l.foldl (fun o s => addL o ⟨s.f0, mx (wrap64 (s.f1 - a)) 0, wrap64 (s.f2 - a)⟩) o).length ≤ o.length + l.length := by
  intro l
  induction l with
  | nil => intro o; simp
  | cons s r ih =>
   intro o
   rw [List.foldl_cons]
   refine Nat.le_trans (ih _) ?_
   have := addL_length o ⟨s.f0, mx (wrap64 (s.f1 - a)) 0, wrap64 (s.f2 - a)⟩
   simp only [List.length_cons]
   omega
 simpa [partB] using this xs []
theorem sitesB_length (a : Int) (ys : List S70) : (sitesB a ys).length ≤ ys.length := by
 unfold sitesB
 rw [List.length_map]
 exact List.length_filter_le _ _
/-- Three segments laid into three blocks. -/
theorem lay3 {w W : World} {k1 k2 k3 : Nat} {y1 : G} {p1 A1 : Option Addr} {c1 : Nat} {B1 : Option Addr} {d1 : Nat} {y2 : G} {p2 A2 : Option Addr} {c2 : Nat} {B2 : Option Addr} {d2 : Nat} {y3 : G} {p3 A3 : Option Addr} {c3 : Nat} {B3 : Option Addr} {d3 : Nat} (hb : Below w.heap.size w W) (l1 : w.heap.size ≤ k1) (l2 : w.heap.size ≤ k2) (l3 : w.heap.size ≤ k3) (n12 : k1 ≠ k2) (n13 : k1 ≠ k3) (n23 : k2 ≠ k3)
  (h1 : SP W y1 p1 A1 c1 B1 d1) (h2 : SP W y2 p2 A2 c2 B2 d2) (h3 : SP W y3 p3 A3 c3 B3 d3) (g1 : W.heap[k1]? = some (.cells zC 31 (0, 0))) (g2 : W.heap[k2]? = some (.cells zC 31 (0, 0))) (g3 : W.heap[k3]? = some (.cells zC 31 (0, 0))) :
  (SP (lay5 (lay5 (lay5 W k1 y1 p1 A1 c1 B1 d1) k2 y2 p2 A2 c2 B2 d2) k3 y3 p3 A3 c3 B3 d3) y1 p1 A1 c1 B1 d1 ∧ SP (lay5 (lay5 (lay5 W k1 y1 p1 A1 c1 B1 d1) k2 y2 p2 A2 c2 B2 d2) k3 y3 p3 A3 c3 B3 d3) y2 p2 A2 c2 B2 d2 ∧ SP (lay5 (lay5 (lay5 W k1 y1 p1 A1 c1 B1 d1) k2 y2 p2 A2 c2 B2 d2) k3 y3 p3 A3 c3 B3 d3) y3 p3 A3 c3 B3 d3) ∧ (lay5 (lay5 (lay5 W k1 y1 p1 A1 c1 B1 d1) k2 y2 p2 A2 c2 B2 d2) k3 y3 p3 A3 c3 B3 d3).heap[k1]? = some (.cells (sgC y1 p1 A1 c1 B1 d1) 31 (0, 0)) ∧ (lay5 (lay5 (lay5 W k1 y1 p1 A1 c1 B1 d1) k2 y2 p2 A2 c2 B2 d2) k3 y3 p3 A3 c3 B3 d3).heap[k2]? = some (.cells (sgC y2 p2 A2 c2 B2 d2) 31 (0, 0)) ∧ (lay5 (lay5 (lay5 W k1 y1 p1 A1 c1 B1 d1) k2 y2 p2 A2 c2 B2 d2) k3 y3 p3 A3 c3 B3 d3).heap[k3]? = some (.cells (sgC y3 p3 A3 c3 B3 d3) 31 (0, 0)) ∧ Below w.heap.size w (lay5 (lay5 (lay5 W k1 y1 p1 A1 c1 B1 d1) k2 y2 p2 A2 c2 B2 d2) k3 y3 p3 A3 c3 B3 d3) := by
 have e2 := (lay5_far (W := W) (y := y1) (p := p1) (A := A1) (c := c1) (B := B1) (d := d1) n12).trans g2
 have e3 := (lay5_far (W := W) (y := y1) (p := p1) (A := A1) (c := c1) (B := B1) (d := d1) n13).trans g3
 have e3' := (lay5_far (W := lay5 W k1 y1 p1 A1 c1 B1 d1) (y := y2) (p := p2) (A := A2) (c := c2) (B := B2) (d := d2) n23).trans e3
 refine ⟨⟨(lay5_sp (lay5_sp (lay5_sp h1 g1).1 e2).1 e3').1, (lay5_sp (lay5_sp (lay5_sp h2 g1).1 e2).1 e3').1, (lay5_sp (lay5_sp (lay5_sp h3 g1).1 e2).1 e3').1⟩, ?_, ?_, (lay5_sp (lay5_sp (lay5_sp h1 g1).1 e2).1 e3').2, lay5_below (lay5_below (lay5_below hb l1) l2) l3⟩
 ·exact (lay5_far n13.symm).trans ((lay5_far n12.symm).trans (lay5_sp h1 g1).2)
 ·exact (lay5_far n23.symm).trans (lay5_sp (lay5_sp h1 g1).1 e2).2
theorem TR.with {w : World} {x : G} {xs : List S67} {ys : List S70} {A : Option Addr} {c : Nat} {B : Option Addr} {d : Nat} (h : TR w (mG xs ys) A c B d) (h3 : xs = x.f3) (h4 : ys = x.f4) : TR w x A c B d := by
 subst h3 h4
 exact ⟨⟨h.c3, h.c4, h.r3, h.r4⟩, h.t3, h.t4⟩
theorem TR.pair {w : World} {x : G} {A : Option Addr} {c : Nat} {B : Option Addr} {d : Nat} (h : TR w x A c B d) : TR w (mG x.f3 x.f4) A c B d := ⟨⟨h.c3, h.c4, h.r3, h.r4⟩, h.t3, h.t4⟩
set_option maxRecDepth 1000000 in
set_option maxHeartbeats 8000000 in
theorem segPart_calls (x : G) (p A : Option Addr) (c : Nat) (B : Option Addr) (d : Nat) (at_ n mi la lb : Int) (w : World) (h : SP w x p A c B d) (hz : x.f2.size ≤ 1099511627776) (h3 : x.f3.length ≤ 1099511627776) (h4 : x.f4.length ≤ 1099511627776) {a b : Int} (ha : a = clampI (cnt x.f2) at_) (hb_ : b = a + lenI (cnt x.f2) a n) :
  Calls Tryd.prog 20 #[.agg (sgC x p A c B d), .int .i64 at_, .int .i64 n, .int .i64 mi, .int .i64 la, .int .i64 lb] w fun e w' => ∃ p1 A1 c1 B1 d1 p2 p3 A3 c3 B3 d3, e = .returned (.tuple #[.agg (sgC (pt1 x a) p1 A1 c1 B1 d1), .agg (sgC (pt2 x a b mi lb) p2 none 0 none 0), .agg (sgC (pt3 x a b la) p3 A3 c3 B3 d3)]) ∧ SP w' (pt1 x a) p1 A1 c1 B1 d1 ∧ SP w' (pt2 x a b mi lb) p2 none 0 none 0 ∧ SP w' (pt3 x a b la) p3 A3 c3 B3 d3 ∧ Below w.heap.size w w' := by
 obtain ⟨cs, hl, h2⟩ : ∃ cs, Letts cs ∧ x.f2.data.toList = cs.flatten := by obtain ⟨t, cs, hi, hs⟩ := h.rp; exact ⟨cs, hi.g.letts, hs⟩
 have hin := cnt_in ((validD_iff _).2 ⟨cs, hl, h2⟩) hz
 have hcl := clamp_in (a := at_) hin.1
 rw [← ha] at hcl
 have hln := len_in (n := n) hcl.2
 have wa_ : IntKind.i64.wrap (b - a) = b - a := IntWalk.i64_in _ (by omega)
 have HAB := Lib.hid (And.intro ha hb_)
 have HS := Lib.hid h
 clear h cs hl h2 hin hcl hln ha hb_
 have HPB := Lib.hid (And.intro (partB_length a x.f3) (sitesB_length a x.f4))
 go_enter Tryd.func20, Tryd.ntmps20
 go_upto_region 1 with fail
 refine gen2 (φ := fun W => Code.wp _ _ _ _ W) (P := fun W => P0 w x p A c B d W) P0.mk4 ?_
 rintro V hV
 have ZV := Lib.hid hV
 have x0 := (blk_cell hV.h6 0).trans rfl
 have x1 := (blk_cell hV.h6 1).trans rfl
 have x2 := (blk_cell hV.h6 2).trans rfl
 have x3 := (blk_cell hV.h6 3).trans rfl
 have x4 := (blk_cell hV.h6 4).trans rfl
 clear hV
 go_upto_region 2 with (go_at_call 51; refine (places_calls x p A c B d at_ n _ (HS.out.rp.below ZV.out.b) hz).mono ?_; rw [← HAB.out.1, ← HAB.out.2]; rintro e w1 ⟨rfl, hb1⟩; have Z1 := Lib.hid (ZV.out.next hb1); clear hb1)
 clear x0 x1 x2 x3 x4
 have x3 := (blk_cell Z1.out.h6 3).trans rfl
 have x4 := (blk_cell Z1.out.h6 4).trans rfl
 have TX := Lib.hid (HS.out.toTR.below Z1.out.b).pair
 go_upto_region 3 with (go_at_call 52; refine (part4_calls A c x.f3 B d x.f4 a _ TX.out h3 h4).mono ?_; rintro e w2 ⟨A1, c1, B1, d1, A2, c2, B2, d2, rfl, ht1, ht2, hb2⟩; have Z2 := Lib.hid (Z1.out.next hb2); have T1 := Lib.hid ht1; have T2 := Lib.hid ht2; clear hb2 ht1 ht2)
 have G3 := Lib.hid (blk_lt Z2.out.h14)
 refine gen2 (φ := fun W => Code.wp _ _ _ _ W) (P := fun W => P0 w x p A c B d W ∧ TR W (mG (partA a x.f3) (sitesA a x.f4)) A1 c1 B1 d1 ∧ TR W (mG (partB a x.f3) (sitesB a x.f4)) A2 c2 B2 d2 ∧ W.heap[w2.heap.size]? = some (.cells #[.slice A1 (partA a x.f3).length c1, .slice B1 (sitesA a x.f4).length d1] 29 (0, 0)) ∧ W.heap[w2.heap.size + 1]? = some (.cells #[.slice A2 (partB a x.f3).length c2, .slice B2 (sitesB a x.f4).length d2] 29 (0, 0)))
  ⟨Z2.out.next (below_alloc (below_alloc (Below.refl _ _) _) _), T1.out.below (below_alloc (below_alloc (Below.refl _ _) _) _), T2.out.below (below_alloc (below_alloc (Below.refl _ _) _) _), blk_below (blk_new w2 _) (below_alloc (Below.refl _ _) _), blk_newS (by simp)⟩ ?_
 rintro V3 ⟨hz3, ht1, ht2, h17, h18⟩
 have Z3 := Lib.hid hz3
 have TA := Lib.hid ht1
 have TB := Lib.hid ht2
 have X17 := Lib.hid h17
 have m0 := (blk_cell h18 0).trans rfl
 have m1 := (blk_cell h18 1).trans rfl
 clear hz3 ht1 ht2 h17 h18 Z2 T1 T2 TX x3 x4 Z1 ZV
 generalize w2.heap.size = g17 at *
 clear w2 w1 V
 generalize hxb : partB a x.f3 = xb at *
 generalize hyb : sitesB a x.f4 = yb at *
 have HXB := Lib.hid (And.intro hxb hyb)
 clear hxb hyb
 go_upto_region 4 with (go_at_call 52; refine (part4_calls A2 c2 xb B2 d2 yb (b - a) _ TB.out (by have := HPB.out.1; omega) (by have := HPB.out.2; omega)).mono ?_; rintro e w2 ⟨A4, c4, B4, d4, A5, c5, B5, d5, rfl, ht1, ht2, hb2⟩; have Z2 := Lib.hid (Z3.out.next hb2); have T2 := Lib.hid ht2; have T1 := Lib.hid (TA.out.below hb2); have Y17 := Lib.hid (blk_below X17.out hb2); clear hb2 ht1 ht2)
 have G4 := Lib.hid (blk_lt Z2.out.h14)
 refine gen2 (φ := fun W => Code.wp _ _ _ _ W) (P := fun W => P0 w x p A c B d W ∧ TR W (mG (partA a x.f3) (sitesA a x.f4)) A1 c1 B1 d1 ∧ TR W (mG (partB (b - a) xb) (sitesB (b - a) yb)) A5 c5 B5 d5 ∧ W.heap[g17]? = some (.cells #[.slice A1 (partA a x.f3).length c1, .slice B1 (sitesA a x.f4).length d1] 29 (0, 0)) ∧ W.heap[w2.heap.size + 1]? = some (.cells #[.slice A5 (partB (b - a) xb).length c5, .slice B5 (sitesB (b - a) yb).length d5] 29 (0, 0)))
  ⟨Z2.out.next (below_alloc (below_alloc (Below.refl _ _) _) _), T1.out.below (below_alloc (below_alloc (Below.refl _ _) _) _), T2.out.below (below_alloc (below_alloc (Below.refl _ _) _) _), blk_below Y17.out (below_alloc (below_alloc (Below.refl _ _) _) _), blk_newS (by simp)⟩ ?_
 rintro V ⟨hz3, ht1, ht2, h17, h20⟩
 have ZV := Lib.hid hz3
 have SA := Lib.hid ht1
 have SB := Lib.hid ht2
 have PV := Lib.hid (show P4 w x p A c B d g17 (w2.heap.size + 1) _ _ V from ⟨hz3.b, hz3.h6, h17, h20⟩)
 have GG := Lib.hid (show w.heap.size + 1 + 1 + 1 < w2.heap.size + 1 from Nat.lt_succ_of_lt G4.out)
 clear hz3 ht1 ht2 h17 h20 Z2 T1 T2 Z3 TA TB X17 Y17 G4 m0 m1
 generalize w2.heap.size = g19 at *
 generalize g19 + 1 = g20 at *
 clear w2 V3
 generalize hxa : partA a x.f3 = xa at *
 generalize hya : sitesA a x.f4 = ya at *
 generalize hxz : partB (b - a) xb = xz at *
 generalize hyz : sitesB (b - a) yb = yz at *
 have HXA := Lib.hid (And.intro hxa hya)
 have HXZ := Lib.hid (And.intro hxz hyz)
 clear hxa hya hxz hyz
 generalize hl1 : xa.length = la1 at *
 generalize hl2 : ya.length = la2 at *
 generalize hl3 : xz.length = lz1 at *
 generalize hl4 : yz.length = lz2 at *
 have HL := Lib.hid (And.intro hl1 (And.intro hl2 (And.intro hl3 hl4)))
 clear hl1 hl2 hl3 hl4
 have PD := Lib.hid (show P4 w x p A c B d g17 g20 _ _ V.drew from PV.out.next (by with_reducible repeat (first | exact Below.refl _ _ | apply pw_below_drewN | apply Below.drew)))
 refine wp_region_noPanic ?_
 refine wp_region_held_drew (S := (fun w' => PS w x p A c B d g17 g20 (.slice A1 la1 c1) (.slice B1 la2 d1) (.slice A5 lz1 c5) (.slice B5 lz2 d5) w')) ?hm_r ?hS_r (fun hHeld => ?_)
 case hm_r => kernel_rfl
 case hS_r => exact PS.of PD.out
 refine wpAnyH_take (i := 0) (oi := ?or0) (v := ?vr0) ?hi_r0 ?k1_r0 ?k2_r0 ?k3_r0 (fun _ _ _ h => h) (Or.inl ⟨?g_r0, ?y_r0⟩) (by assumption) ?r_r0
 case hi_r0 => (simp only [List.getElem?_toArray, List.getElem?_cons_succ, List.getElem?_cons_zero]; rfl)
 case k1_r0 => kernel_rfl
 case k2_r0 => kernel_rfl
 case k3_r0 => kernel_rfl
 case g_r0 => rfl
 case y_r0 => (intro w hSw; (try dsimp only at hSw); first | (go_simp; done) | (go_simp; with_reducible rfl))
 (try simp only [Act.put, List.setIfInBounds_toArray, List.set_cons_zero, List.set_cons_succ])
 refine wpAnyH_take (i := 1) (oi := ?or1) (v := ?vr1) ?hi_r1 ?k1_r1 ?k2_r1 ?k3_r1 (fun _ _ _ h => h) (Or.inl ⟨?g_r1, ?y_r1⟩) (by assumption) ?r_r1
 case hi_r1 => (simp only [List.getElem?_toArray, List.getElem?_cons_succ, List.getElem?_cons_zero]; rfl)
 case k1_r1 => kernel_rfl
 case k2_r1 => kernel_rfl
 case k3_r1 => kernel_rfl
 case g_r1 => rfl
 case y_r1 => (intro w hSw; (try dsimp only at hSw); first | (go_simp; done) | (go_simp; with_reducible rfl))
 (try simp only [Act.put, List.setIfInBounds_toArray, List.set_cons_zero, List.set_cons_succ])
 refine wpAnyH_take (i := 2) (oi := ?or2) (v := ?vr2) ?hi_r2 ?k1_r2 ?k2_r2 ?k3_r2 (fun _ _ _ h => h) (Or.inl ⟨?g_r2, ?y_r2⟩) (by assumption) ?r_r2
 case hi_r2 => (simp only [List.getElem?_toArray, List.getElem?_cons_succ, List.getElem?_cons_zero]; rfl)
 case k1_r2 => kernel_rfl
 case k2_r2 => kernel_rfl
 case k3_r2 => kernel_rfl
 case g_r2 => rfl
 case y_r2 => (intro w hSw; (try dsimp only at hSw); first | (go_simp; done) | (go_simp; with_reducible rfl))
 (try simp only [Act.put, List.setIfInBounds_toArray, List.set_cons_zero, List.set_cons_succ])
 refine wpAnyH_take (i := 3) (oi := ?or3) (v := ?vr3) ?hi_r3 ?k1_r3 ?k2_r3 ?k3_r3 (fun _ _ _ h => h) (Or.inl ⟨?g_r3, ?y_r3⟩) (by assumption) ?r_r3
 case hi_r3 => (simp only [List.getElem?_toArray, List.getElem?_cons_succ, List.getElem?_cons_zero]; rfl)
 case k1_r3 => kernel_rfl
 case k2_r3 => kernel_rfl
 case k3_r3 => kernel_rfl
 case g_r3 => rfl
 case y_r3 => (intro w hSw; (try dsimp only at hSw); first | (go_simp; done) | (go_simp; with_reducible rfl))
 (try simp only [Act.put, List.setIfInBounds_toArray, List.set_cons_zero, List.set_cons_succ])
 refine wpAnyH_take (i := 4) (oi := ?or4) (v := ?vr4) ?hi_r4 ?k1_r4 ?k2_r4 ?k3_r4 (fun _ _ _ h => h) (Or.inl ⟨?g_r4, ?y_r4⟩) (by assumption) ?r_r4
 case hi_r4 => (simp only [List.getElem?_toArray, List.getElem?_cons_succ, List.getElem?_cons_zero]; rfl)
 case k1_r4 => kernel_rfl
 case k2_r4 => kernel_rfl
 case k3_r4 => kernel_rfl
 case g_r4 => rfl
 case y_r4 => (intro w hSw; (try dsimp only at hSw); first | (go_simp; done) | (go_simp; with_reducible rfl))
 (try simp only [Act.put, List.setIfInBounds_toArray, List.set_cons_zero, List.set_cons_succ])
 refine wpAnyH_take (i := 5) (oi := ?or5) (v := ?vr5) ?hi_r5 ?k1_r5 ?k2_r5 ?k3_r5 (fun _ _ _ h => h) (Or.inl ⟨?g_r5, ?y_r5⟩) (by assumption) ?r_r5
 case hi_r5 => (simp only [List.getElem?_toArray, List.getElem?_cons_succ, List.getElem?_cons_zero]; rfl)
 case k1_r5 => kernel_rfl
 case k2_r5 => kernel_rfl
 case k3_r5 => kernel_rfl
 case g_r5 => rfl
 case y_r5 => (intro w hSw; (try dsimp only at hSw); first | (go_simp; done) | (go_simp; with_reducible rfl))
 (try simp only [Act.put, List.setIfInBounds_toArray, List.set_cons_zero, List.set_cons_succ])
 refine wpAnyH_take (i := 6) (oi := ?or6) (v := ?vr6) ?hi_r6 ?k1_r6 ?k2_r6 ?k3_r6 (fun _ _ _ h => h) (Or.inl ⟨?g_r6, ?y_r6⟩) (by assumption) ?r_r6
 case hi_r6 => (simp only [List.getElem?_toArray, List.getElem?_cons_succ, List.getElem?_cons_zero]; rfl)
 case k1_r6 => kernel_rfl
 case k2_r6 => kernel_rfl
 case k3_r6 => kernel_rfl
 case g_r6 => rfl
 case y_r6 => (intro w hSw; (try dsimp only at hSw); first | (go_simp; done) | (go_simp; with_reducible rfl))
 (try simp only [Act.put, List.setIfInBounds_toArray, List.set_cons_zero, List.set_cons_succ])
 refine wpAnyH_take (i := 8) (oi := ?or8) (v := ?vr8) ?hi_r8 ?k1_r8 ?k2_r8 ?k3_r8 (fun _ _ _ h => h) (Or.inl ⟨?g_r8, ?y_r8⟩) (by assumption) ?r_r8
 case hi_r8 => (simp only [List.getElem?_toArray, List.getElem?_cons_succ, List.getElem?_cons_zero]; rfl)
 case k1_r8 => kernel_rfl
 case k2_r8 => kernel_rfl
 case k3_r8 => kernel_rfl
 case g_r8 => rfl
 case y_r8 => (intro w hSw; (try dsimp only at hSw); first | (go_simp; done) | (go_simp; with_reducible rfl))
 (try simp only [Act.put, List.setIfInBounds_toArray, List.set_cons_zero, List.set_cons_succ])
 refine wpAnyH_take (i := 10) (oi := ?or10) (v := ?vr10) ?hi_r10 ?k1_r10 ?k2_r10 ?k3_r10 (fun _ _ _ h => h) (Or.inl ⟨?g_r10, ?y_r10⟩) (by assumption) ?r_r10
 case hi_r10 => (simp only [List.getElem?_toArray, List.getElem?_cons_succ, List.getElem?_cons_zero]; rfl)
 case k1_r10 => kernel_rfl
 case k2_r10 => kernel_rfl
 case k3_r10 => kernel_rfl
 case g_r10 => rfl
 case y_r10 => (intro w hSw; (try dsimp only at hSw); first | (go_simp; done) | (go_simp; with_reducible rfl))
 (try simp only [Act.put, List.setIfInBounds_toArray, List.set_cons_zero, List.set_cons_succ])
 refine wpAnyH_take (i := 11) (oi := ?or11) (v := ?vr11) ?hi_r11 ?k1_r11 ?k2_r11 ?k3_r11 (fun _ _ _ h => h) (Or.inl ⟨?g_r11, ?y_r11⟩) (by assumption) ?r_r11
 case hi_r11 => (simp only [List.getElem?_toArray, List.getElem?_cons_succ, List.getElem?_cons_zero]; rfl)
 case k1_r11 => kernel_rfl
 case k2_r11 => kernel_rfl
 case k3_r11 => kernel_rfl
 case g_r11 => rfl
 case y_r11 => (intro w hSw; (try dsimp only at hSw); first | (go_simp; done) | (go_simp; with_reducible rfl))
 (try simp only [Act.put, List.setIfInBounds_toArray, List.set_cons_zero, List.set_cons_succ])
 refine wpAnyH_take (i := 12) (oi := ?or12) (v := ?vr12) ?hi_r12 ?k1_r12 ?k2_r12 ?k3_r12 (fun _ _ _ h => h) (Or.inl ⟨?g_r12, ?y_r12⟩) (by assumption) ?r_r12
 case hi_r12 => (simp only [List.getElem?_toArray, List.getElem?_cons_succ, List.getElem?_cons_zero]; rfl)
 case k1_r12 => kernel_rfl
 case k2_r12 => kernel_rfl
 case k3_r12 => kernel_rfl
 case g_r12 => rfl
 case y_r12 => (intro w hSw; (try dsimp only at hSw); first | (go_simp; done) | (go_simp; with_reducible rfl))
 (try simp only [Act.put, List.setIfInBounds_toArray, List.set_cons_zero, List.set_cons_succ])
 refine wpAnyH_take (i := 13) (oi := ?or13) (v := ?vr13) ?hi_r13 ?k1_r13 ?k2_r13 ?k3_r13 (fun _ _ _ h => h) (Or.inl ⟨?g_r13, ?y_r13⟩) (by assumption) ?r_r13
 case hi_r13 => (simp only [List.getElem?_toArray, List.getElem?_cons_succ, List.getElem?_cons_zero]; rfl)
 case k1_r13 => kernel_rfl
 case k2_r13 => kernel_rfl
 case k3_r13 => kernel_rfl
 case g_r13 => rfl
 case y_r13 => (intro w hSw; (try dsimp only at hSw); first | (go_simp; done) | (go_simp; with_reducible rfl))
 (try simp only [Act.put, List.setIfInBounds_toArray, List.set_cons_zero, List.set_cons_succ])
 refine wpAnyH_take (i := 14) (oi := ?or14) (v := ?vr14) ?hi_r14 ?k1_r14 ?k2_r14 ?k3_r14 (fun _ _ _ h => h) (Or.inl ⟨?g_r14, ?y_r14⟩) (by assumption) ?r_r14
 case hi_r14 => (simp only [List.getElem?_toArray, List.getElem?_cons_succ, List.getElem?_cons_zero]; rfl)
 case k1_r14 => kernel_rfl
 case k2_r14 => kernel_rfl
 case k3_r14 => kernel_rfl
 case g_r14 => rfl
 case y_r14 => (intro w hSw; (try dsimp only at hSw); first | (go_simp; done) | (go_simp; with_reducible rfl))
 (try simp only [Act.put, List.setIfInBounds_toArray, List.set_cons_zero, List.set_cons_succ])
 refine wpAnyH_take (i := 15) (oi := ?or15) (v := ?vr15) ?hi_r15 ?k1_r15 ?k2_r15 ?k3_r15 (fun _ _ _ h => h) (Or.inl ⟨?g_r15, ?y_r15⟩) (by assumption) ?r_r15
 case hi_r15 => (simp only [List.getElem?_toArray, List.getElem?_cons_succ, List.getElem?_cons_zero]; rfl)
 case k1_r15 => kernel_rfl
 case k2_r15 => kernel_rfl
 case k3_r15 => kernel_rfl
 case g_r15 => rfl
 case y_r15 => (intro w hSw; (try dsimp only at hSw); first | (go_simp; done) | (go_simp; with_reducible rfl))
 (try simp only [Act.put, List.setIfInBounds_toArray, List.set_cons_zero, List.set_cons_succ])
 refine wpAnyH_take (i := 18) (oi := ?or18) (v := ?vr18) ?hi_r18 ?k1_r18 ?k2_r18 ?k3_r18 (fun _ _ _ h => h) (Or.inl ⟨?g_r18, ?y_r18⟩) (by assumption) ?r_r18
 case hi_r18 => (simp only [List.getElem?_toArray, List.getElem?_cons_succ, List.getElem?_cons_zero]; rfl)
 case k1_r18 => kernel_rfl
 case k2_r18 => kernel_rfl
 case k3_r18 => kernel_rfl
 case g_r18 => rfl
 case y_r18 => (intro w hSw; (try dsimp only at hSw); first | (go_simp; done) | (go_simp; with_reducible rfl))
 (try simp only [Act.put, List.setIfInBounds_toArray, List.set_cons_zero, List.set_cons_succ])
 refine wpAnyH_take (i := 19) (oi := ?or19) (v := ?vr19) ?hi_r19 ?k1_r19 ?k2_r19 ?k3_r19 (fun _ _ _ h => h) (Or.inl ⟨?g_r19, ?y_r19⟩) (by assumption) ?r_r19
 case hi_r19 => (simp only [List.getElem?_toArray, List.getElem?_cons_succ, List.getElem?_cons_zero]; rfl)
 case k1_r19 => kernel_rfl
 case k2_r19 => kernel_rfl
 case k3_r19 => kernel_rfl
 case g_r19 => rfl
 case y_r19 => (intro w hSw; (try dsimp only at hSw); first | (go_simp; done) | (go_simp; with_reducible rfl))
 (try simp only [Act.put, List.setIfInBounds_toArray, List.set_cons_zero, List.set_cons_succ])
 refine wpAnyH_take (i := 20) (oi := ?or20) (v := ?vr20) ?hi_r20 ?k1_r20 ?k2_r20 ?k3_r20 (fun _ _ _ h => h) (Or.inl ⟨?g_r20, ?y_r20⟩) (by assumption) ?r_r20
 case hi_r20 => (simp only [List.getElem?_toArray, List.getElem?_cons_succ, List.getElem?_cons_zero]; rfl)
 case k1_r20 => kernel_rfl
 case k2_r20 => kernel_rfl
 case k3_r20 => kernel_rfl
 case g_r20 => rfl
 case y_r20 => (intro w hSw; (try dsimp only at hSw); first | (go_simp; done) | (go_simp; with_reducible rfl))
 (try simp only [Act.put, List.setIfInBounds_toArray, List.set_cons_zero, List.set_cons_succ])
 refine wpAnyH_take (i := 21) (oi := ?or21) (v := ?vr21) ?hi_r21 ?k1_r21 ?k2_r21 ?k3_r21 (fun _ _ _ h => h) (Or.inl ⟨?g_r21, ?y_r21⟩) (by assumption) ?r_r21
 case hi_r21 => (simp only [List.getElem?_toArray, List.getElem?_cons_succ, List.getElem?_cons_zero]; rfl)
 case k1_r21 => kernel_rfl
 case k2_r21 => kernel_rfl
 case k3_r21 => kernel_rfl
 case g_r21 => rfl
 case y_r21 => (intro w hSw; (try dsimp only at hSw); first | (go_simp; done) | (go_simp; with_reducible rfl))
 (try simp only [Act.put, List.setIfInBounds_toArray, List.set_cons_zero, List.set_cons_succ])
 refine wpAnyH_take (i := 22) (oi := ?or22) (v := ?vr22) ?hi_r22 ?k1_r22 ?k2_r22 ?k3_r22 (fun _ _ _ h => h) (Or.inl ⟨?g_r22, ?y_r22⟩) (by assumption) ?r_r22
 case hi_r22 => (simp only [List.getElem?_toArray, List.getElem?_cons_succ, List.getElem?_cons_zero]; rfl)
 case k1_r22 => kernel_rfl
 case k2_r22 => kernel_rfl
 case k3_r22 => kernel_rfl
 case g_r22 => rfl
 case y_r22 => (intro w hSw; (try dsimp only at hSw); first | (go_simp; done) | (go_simp; with_reducible rfl))
 (try simp only [Act.put, List.setIfInBounds_toArray, List.set_cons_zero, List.set_cons_succ])
 refine wpAnyH_take (i := 23) (oi := ?or23) (v := ?vr23) ?hi_r23 ?k1_r23 ?k2_r23 ?k3_r23 (fun _ _ _ h => h) (Or.inl ⟨?g_r23, ?y_r23⟩) (by assumption) ?r_r23
 case hi_r23 => (simp only [List.getElem?_toArray, List.getElem?_cons_succ, List.getElem?_cons_zero]; rfl)
 case k1_r23 => kernel_rfl
 case k2_r23 => kernel_rfl
 case k3_r23 => kernel_rfl
 case g_r23 => rfl
 case y_r23 => (intro w hSw; (try dsimp only at hSw); first | (go_simp; done) | (go_simp; with_reducible rfl))
 (try simp only [Act.put, List.setIfInBounds_toArray, List.set_cons_zero, List.set_cons_succ])
 refine wpAnyH_take (i := 24) (oi := ?or24) (v := ?vr24) ?hi_r24 ?k1_r24 ?k2_r24 ?k3_r24 (fun _ _ _ h => h) (Or.inl ⟨?g_r24, ?y_r24⟩) (by assumption) ?r_r24
 case hi_r24 => (simp only [List.getElem?_toArray, List.getElem?_cons_succ, List.getElem?_cons_zero]; rfl)
 case k1_r24 => kernel_rfl
 case k2_r24 => kernel_rfl
 case k3_r24 => kernel_rfl
 case g_r24 => rfl
 case y_r24 => (intro w hSw; (try dsimp only at hSw); first | (go_simp; done) | (go_simp; with_reducible rfl))
 (try simp only [Act.put, List.setIfInBounds_toArray, List.set_cons_zero, List.set_cons_succ])
 refine wpAnyH_take (i := 25) (oi := ?or25) (v := ?vr25) ?hi_r25 ?k1_r25 ?k2_r25 ?k3_r25 (fun _ _ _ h => h) (Or.inl ⟨?g_r25, ?y_r25⟩) (by assumption) ?r_r25
 case hi_r25 => (simp only [List.getElem?_toArray, List.getElem?_cons_succ, List.getElem?_cons_zero]; rfl)
 case k1_r25 => kernel_rfl
 case k2_r25 => kernel_rfl
 case k3_r25 => kernel_rfl
 case g_r25 => rfl
 case y_r25 => (intro w hSw; (try dsimp only at hSw); first | (go_simp; done) | (go_simp; with_reducible rfl))
 (try simp only [Act.put, List.setIfInBounds_toArray, List.set_cons_zero, List.set_cons_succ])
 refine wpAnyH_take (i := 28) (oi := ?or28) (v := ?vr28) ?hi_r28 ?k1_r28 ?k2_r28 ?k3_r28 (fun _ _ _ h => h) (Or.inl ⟨?g_r28, ?y_r28⟩) (by assumption) ?r_r28
 case hi_r28 => (simp only [List.getElem?_toArray, List.getElem?_cons_succ, List.getElem?_cons_zero]; rfl)
 case k1_r28 => kernel_rfl
 case k2_r28 => kernel_rfl
 case k3_r28 => kernel_rfl
 case g_r28 => rfl
 case y_r28 => (intro w hSw; (try dsimp only at hSw); first | (go_simp; done) | (go_simp; with_reducible rfl))
 (try simp only [Act.put, List.setIfInBounds_toArray, List.set_cons_zero, List.set_cons_succ])
 refine wpAnyH_ready (rs := [7]) ?k1_r7 (by simp) ?r_r7
 case k1_r7 => kernel_rfl
 refine AllReadyH.cons (o := ?or7) ?hi_r7 (fun K hK => ?s_r7) ?m_r7
 case hi_r7 => (simp only [List.getElem?_toArray, List.getElem?_cons_succ, List.getElem?_cons_zero]; rfl)
 case m_r7 => exact AllReadyH.nil
 go_simp
 (go_at_call 53; (refine (cut_rp 0 a (HS.out.rp.below PD.out.b)).mono ?_); rintro e w7 ⟨r7, rfl, hr, hb⟩; have R7 := Lib.hid hr; have P7 := Lib.hid (PD.out.next hb); have B7 := Lib.hid hb; clear hr hb)
 (try go_wp2_with fail)
 refine hK.out _ _ (PS.of P7.out) (fun hHeld => ?_)
 clear hK K
 (try simp only [Act.put, List.setIfInBounds_toArray, List.set_cons_zero, List.set_cons_succ])
 refine wpAnyH_take (i := 9) (oi := ?or9) (v := ?vr9) ?hi_r9 ?k1_r9 ?k2_r9 ?k3_r9 (fun _ _ _ h => h) (Or.inl ⟨?g_r9, ?y_r9⟩) (by assumption) ?r_r9
 case hi_r9 => (simp only [List.getElem?_toArray, List.getElem?_cons_succ, List.getElem?_cons_zero]; rfl)
 case k1_r9 => kernel_rfl
 case k2_r9 => kernel_rfl
 case k3_r9 => kernel_rfl
 case g_r9 => rfl
 case y_r9 => (intro w hSw; (try dsimp only at hSw); first | (go_simp; done) | (go_simp; with_reducible rfl))
 (try simp only [Act.put, List.setIfInBounds_toArray, List.set_cons_zero, List.set_cons_succ])
 refine wpAnyH_ready (rs := [16]) ?k1_r16 (by simp) ?r_r16
 case k1_r16 => kernel_rfl
 refine AllReadyH.cons (o := ?or16) ?hi_r16 (fun K hK => ?s_r16) ?m_r16
 case hi_r16 => (simp only [List.getElem?_toArray, List.getElem?_cons_succ, List.getElem?_cons_zero]; rfl)
 case m_r16 => exact AllReadyH.nil
 go_simp
 (go_at_call 53; (refine (cut_rp a b (HS.out.rp.below P7.out.b)).mono ?_); rintro e w16 ⟨r16, rfl, hr, hb⟩; have R16 := Lib.hid hr; have P16 := Lib.hid (P7.out.next hb); have B16 := Lib.hid hb; clear hr hb)
 (try go_wp2_with fail)
 refine hK.out _ _ (PS.of P16.out) (fun hHeld => ?_)
 clear hK K
 (try simp only [Act.put, List.setIfInBounds_toArray, List.set_cons_zero, List.set_cons_succ])
 refine wpAnyH_take (i := 17) (oi := ?or17) (v := ?vr17) ?hi_r17 ?k1_r17 ?k2_r17 ?k3_r17 (fun _ _ _ h => h) (Or.inl ⟨?g_r17, ?y_r17⟩) (by assumption) ?r_r17
 case hi_r17 => (simp only [List.getElem?_toArray, List.getElem?_cons_succ, List.getElem?_cons_zero]; rfl)
 case k1_r17 => kernel_rfl
 case k2_r17 => kernel_rfl
 case k3_r17 => kernel_rfl
 case g_r17 => rfl
 case y_r17 => (intro w hSw; (try dsimp only at hSw); first | (go_simp; done) | (go_simp; with_reducible rfl))
 (try simp only [Act.put, List.setIfInBounds_toArray, List.set_cons_zero, List.set_cons_succ])
 refine wpAnyH_ready (rs := [26]) ?k1_r26 (by simp) ?r_r26
 case k1_r26 => kernel_rfl
 refine AllReadyH.cons (o := ?or26) ?hi_r26 (fun K hK => ?s_r26) ?m_r26
 case hi_r26 => (simp only [List.getElem?_toArray, List.getElem?_cons_succ, List.getElem?_cons_zero]; rfl)
 case m_r26 => exact AllReadyH.nil
 go_simp
 (go_at_call 36; (refine (len_rpb (p := p) (s := x.f2) (HS.out.rp.below P16.out.b) hz).mono ?_); rintro e w26 ⟨rfl, hb⟩; have P26 := Lib.hid (P16.out.next hb); have B26 := Lib.hid hb; clear hb)
 (try go_wp2_with fail)
 refine hK.out _ _ (PS.of P26.out) (fun hHeld => ?_)
 clear hK K
 (try simp only [Act.put, List.setIfInBounds_toArray, List.set_cons_zero, List.set_cons_succ])
 refine wpAnyH_ready (rs := [27]) ?k1_r27 (by simp) ?r_r27
 case k1_r27 => kernel_rfl
 refine AllReadyH.cons (o := ?or27) ?hi_r27 (fun K hK => ?s_r27) ?m_r27
 case hi_r27 => (simp only [List.getElem?_toArray, List.getElem?_cons_succ, List.getElem?_cons_zero]; rfl)
 case m_r27 => exact AllReadyH.nil
 go_simp
 (go_at_call 53; (refine (cut_rp b (cnt x.f2) (HS.out.rp.below P26.out.b)).mono ?_); rintro e w27 ⟨r27, rfl, hr, hb⟩; have R27 := Lib.hid hr; have P27 := Lib.hid (P26.out.next hb); have B27 := Lib.hid hb; clear hr hb; have BX := Lib.hid (below_step (below_step (below_step (below_step (show Below V.heap.size V V.drew from (by with_reducible repeat (first | exact Below.refl _ _ | apply pw_below_drewN | apply Below.drew))) B7.out) B16.out) B26.out) B27.out); have F12 := Lib.hid (blk_below ZV.out.h12 BX.out); have F13 := Lib.hid (blk_below ZV.out.h13 BX.out); have F14 := Lib.hid (blk_below ZV.out.h14 BX.out); have q20 := (blk_cell F12.out 0).trans rfl; have z20 := blk_frozen F12.out 0; have q21 := (blk_cell F12.out 1).trans rfl; have z21 := blk_frozen F12.out 1; have q22 := (blk_cell F12.out 2).trans rfl; have z22 := blk_frozen F12.out 2; have q23 := (blk_cell F12.out 3).trans rfl; have z23 := blk_frozen F12.out 3; have q24 := (blk_cell F12.out 4).trans rfl; have z24 := blk_frozen F12.out 4; have q30 := (blk_cell F13.out 0).trans rfl; have z30 := blk_frozen F13.out 0; have q31 := (blk_cell F13.out 1).trans rfl; have z31 := blk_frozen F13.out 1; have q32 := (blk_cell F13.out 2).trans rfl; have z32 := blk_frozen F13.out 2; have q33 := (blk_cell F13.out 3).trans rfl; have z33 := blk_frozen F13.out 3; have q34 := (blk_cell F13.out 4).trans rfl; have z34 := blk_frozen F13.out 4; have q40 := (blk_cell F14.out 0).trans rfl; have z40 := blk_frozen F14.out 0; have q41 := (blk_cell F14.out 1).trans rfl; have z41 := blk_frozen F14.out 1; have q42 := (blk_cell F14.out 2).trans rfl; have z42 := blk_frozen F14.out 2; have q43 := (blk_cell F14.out 3).trans rfl; have z43 := blk_frozen F14.out 3; have q44 := (blk_cell F14.out 4).trans rfl; have z44 := blk_frozen F14.out 4)
 (try go_wp2_with fail)
 refine hK.out _ _ (PS.of P27.out) (fun hHeld => ?_)
 clear hK K
 (try simp only [Act.put, List.setIfInBounds_toArray, List.set_cons_zero, List.set_cons_succ])
 refine wpAnyH_take (i := 29) (oi := ?or29) (v := ?vr29) ?hi_r29 ?k1_r29 ?k2_r29 ?k3_r29 (fun _ _ _ h => h) (Or.inl ⟨?g_r29, ?y_r29⟩) (by assumption) ?r_r29
 case hi_r29 => (simp only [List.getElem?_toArray, List.getElem?_cons_succ, List.getElem?_cons_zero]; rfl)
 case k1_r29 => kernel_rfl
 case k2_r29 => kernel_rfl
 case k3_r29 => kernel_rfl
 case g_r29 => rfl
 case y_r29 => (intro w hSw; (try dsimp only at hSw); first | (go_simp; done) | (go_simp; with_reducible rfl))
 (try simp only [Act.put, List.setIfInBounds_toArray, List.set_cons_zero, List.set_cons_succ])
 refine wpAnyH_ready (rs := [30]) ?k1_r30 (by simp) ?r_r30
 case k1_r30 => kernel_rfl
 refine AllReadyH.cons (o := ?or30) ?hi_r30 (fun K hK => ?s_r30) ?m_r30
 case hi_r30 => (simp only [List.getElem?_toArray, List.getElem?_cons_succ, List.getElem?_cons_zero]; rfl)
 case m_r30 => exact AllReadyH.nil
 go_simp
 refine hK.out _ _ (PS.of (P27.out.five (by omega) (by have := G3.out; omega) (by have := GG.out; omega) _ _ _ _ _)) (fun hHeld => ?_)
 clear hK K
 (try simp only [Act.put, List.setIfInBounds_toArray, List.set_cons_zero, List.set_cons_succ])
 refine wpAnyH_ready (rs := [31]) ?k1_r31 (by simp) ?r_r31
 case k1_r31 => kernel_rfl
 refine AllReadyH.cons (o := ?or31) ?hi_r31 (fun K hK => ?s_r31) ?m_r31
 case hi_r31 => (simp only [List.getElem?_toArray, List.getElem?_cons_succ, List.getElem?_cons_zero]; rfl)
 case m_r31 => exact AllReadyH.nil
 go_simp
 refine hK.out _ _ (PS.of ((P27.out.five (by omega) (by have := G3.out; omega) (by have := GG.out; omega) _ _ _ _ _).five (by omega) (by have := G3.out; omega) (by have := GG.out; omega) _ _ _ _ _)) (fun hHeld => ?_)
 clear hK K
 (try simp only [Act.put, List.setIfInBounds_toArray, List.set_cons_zero, List.set_cons_succ])
 refine wpAnyH_ready (rs := [32]) ?k1_r32 (by simp) ?r_r32
 case k1_r32 => kernel_rfl
 refine AllReadyH.cons (o := ?or32) ?hi_r32 (fun K hK => ?s_r32) ?m_r32
 case hi_r32 => (simp only [List.getElem?_toArray, List.getElem?_cons_succ, List.getElem?_cons_zero]; rfl)
 case m_r32 => exact AllReadyH.nil
 go_simp
 refine hK.out _ _ (PS.of (((P27.out.five (by omega) (by have := G3.out; omega) (by have := GG.out; omega) _ _ _ _ _).five (by omega) (by have := G3.out; omega) (by have := GG.out; omega) _ _ _ _ _).five (by omega) (by have := G3.out; omega) (by have := GG.out; omega) _ _ _ _ _)) (fun hHeld => ?_)
 clear hK K
 (try simp only [Act.put, List.setIfInBounds_toArray, List.set_cons_zero, List.set_cons_succ])
 refine wpAnyH_done (by kernel_rfl) ?_ _
 refine NoPanic.normal ?_
 obtain ⟨rfl, rfl, rfl, rfl⟩ := HL.out
 obtain ⟨rfl, rfl⟩ := HXA.out
 obtain ⟨rfl, rfl⟩ := HXZ.out
 obtain ⟨rfl, rfl⟩ := HXB.out
 have LL := lay3 (y1 := pt1 x a) (y2 := pt2 x a b mi lb) (y3 := pt3 x a b la) P27.out.b (k1 := w.heap.size + 1) (k2 := w.heap.size + 1 + 1) (k3 := w.heap.size + 1 + 1 + 1) (by omega) (by omega) (by omega) (by omega) (by omega) (by omega)
  ⟨(SA.out.below BX.out).with (x := pt1 x a) rfl rfl, R7.out.below (below_step (below_step B16.out B26.out) B27.out)⟩
  ⟨(nG_sp 0 0 _).toTR.with (x := pt2 x a b mi lb) rfl rfl, R16.out.below (below_step B26.out B27.out)⟩
  ⟨(SB.out.below BX.out).with (x := pt3 x a b la) rfl rfl, R27.out⟩ F12.out F13.out F14.out
 refine gen2 (φ := fun W => Exit.then _ _ Exit.normal _ W) (P := fun W => (SP W (pt1 x a) r7 A1 c1 B1 d1 ∧ SP W (pt2 x a b mi lb) r16 none 0 none 0 ∧ SP W (pt3 x a b la) r27 A5 c5 B5 d5) ∧ W.heap[w.heap.size + 1]? = some (.cells (sgC (pt1 x a) r7 A1 c1 B1 d1) 31 (0, 0)) ∧ W.heap[w.heap.size + 1 + 1]? = some (.cells (sgC (pt2 x a b mi lb) r16 none 0 none 0) 31 (0, 0)) ∧ W.heap[w.heap.size + 1 + 1 + 1]? = some (.cells (sgC (pt3 x a b la) r27 A5 c5 B5 d5) 31 (0, 0)) ∧ Below w.heap.size w W) LL ?_
 rintro W ⟨⟨s1, s2, s3⟩, g1, g2, g3, hb⟩
 go_wp2
 refine bodyPost_ret (results_list (rs := [.cell 12 31, .cell 13 31, .cell 14 31]) rfl (by simp) (.cell _ _ (sgC (pt1 x a) r7 A1 c1 B1 d1) (0, 0) _ rfl g1 Tryd.underlying31 rfl (by kernel_rfl) (.cell _ _ (sgC (pt2 x a b mi lb) r16 none 0 none 0) (0, 0) _ rfl g2 Tryd.underlying31 rfl (by kernel_rfl) (.cell _ _ (sgC (pt3 x a b la) r27 A5 c5 B5 d5) (0, 0) _ rfl g3 Tryd.underlying31 rfl (by kernel_rfl) .nil)))) rfl ?_
 exact ⟨r7, A1, c1, B1, d1, r16, r27, A5, c5, B5, d5, rfl, s1, s2, s3, hb⟩
end Go.Proofs.YtjphmebhofkhcaaDoor.Seg
/- Segments: the walk of the law SegmentWhole. Conditions: none beside the row's. -/
namespace Go.Proofs.YtjphmebhofkhcaaDoor.Seg
open Go.RowKit Go.Proofs.YtjphmebhofkhcaaDoorPl Go.Proofs.YtjphmebhofkhcaaDoorW.PrintWords Go.Proofs.YtjphmebhofkhcaaDoorW.PrintLast Go.Proofs.YtjphmebhofkhcaaDoorW.PrintMore Go.Proofs.YtjphmebhofkhcaaDoor.Rope Go.Proofs.YtjphmebhofkhcaaDoor.PSegAll Go.Proofs.YtjphmebhofkhcaaDoor.Pure
set_option linter.unusedVariables false
set_option linter.unusedSimpArgs false
/-- Three segments in three blocks. -/
structure TZ (k1 k2 k3 : Nat) (y1 : G) (p1 A1 : Option Addr) (c1 : Nat) (B1 : Option Addr) (d1 : Nat) (y2 : G) (p2 A2 : Option Addr) (c2 : Nat) (B2 : Option Addr) (d2 : Nat) (y3 : G) (p3 A3 : Option Addr) (c3 : Nat) (B3 : Option Addr) (d3 : Nat) (W : World) : Prop where
 s1 : SB k1 y1 p1 A1 c1 B1 d1 W
 s2 : SB k2 y2 p2 A2 c2 B2 d2 W
 s3 : SB k3 y3 p3 A3 c3 B3 d3 W
theorem TZ.next {k1 k2 k3 : Nat} {y1 : G} {p1 A1 : Option Addr} {c1 : Nat} {B1 : Option Addr} {d1 : Nat} {y2 : G} {p2 A2 : Option Addr} {c2 : Nat} {B2 : Option Addr} {d2 : Nat} {y3 : G} {p3 A3 : Option Addr} {c3 : Nat} {B3 : Option Addr} {d3 : Nat} {W W' : World} (h : TZ k1 k2 k3 y1 p1 A1 c1 B1 d1 y2 p2 A2 c2 B2 d2 y3 p3 A3 c3 B3 d3 W) (hb : Below W.heap.size W W') : TZ k1 k2 k3 y1 p1 A1 c1 B1 d1 y2 p2 A2 c2 B2 d2 y3 p3 A3 c3 B3 d3 W' := ⟨h.s1.next hb, h.s2.next hb, h.s3.next hb⟩
theorem TZ.new {W : World} {y1 : G} {p1 A1 : Option Addr} {c1 : Nat} {B1 : Option Addr} {d1 : Nat} {y2 : G} {p2 A2 : Option Addr} {c2 : Nat} {B2 : Option Addr} {d2 : Nat} {y3 : G} {p3 A3 : Option Addr} {c3 : Nat} {B3 : Option Addr} {d3 : Nat} (h1 : SP W y1 p1 A1 c1 B1 d1) (h2 : SP W y2 p2 A2 c2 B2 d2) (h3 : SP W y3 p3 A3 c3 B3 d3) : TZ W.heap.size (W.heap.size + 1) (W.heap.size + 1 + 1) y1 p1 A1 c1 B1 d1 y2 p2 A2 c2 B2 d2 y3 p3 A3 c3 B3 d3 (((W.alloc (.cells (sgC y1 p1 A1 c1 B1 d1) 31 (0, 0))).alloc (.cells (sgC y2 p2 A2 c2 B2 d2) 31 (0, 0))).alloc (.cells (sgC y3 p3 A3 c3 B3 d3) 31 (0, 0))) :=
 have hb : Below W.heap.size W (((W.alloc (.cells (sgC y1 p1 A1 c1 B1 d1) 31 (0, 0))).alloc (.cells (sgC y2 p2 A2 c2 B2 d2) 31 (0, 0))).alloc (.cells (sgC y3 p3 A3 c3 B3 d3) 31 (0, 0))) := below_alloc (below_alloc (below_alloc (Below.refl _ _) _) _) _
 ⟨⟨h1.below hb, blk_below (blk_new W _) (below_alloc (below_alloc (Below.refl _ _) _) _)⟩, ⟨h2.below hb, blk_below (blk_newS (by simp)) (below_alloc (Below.refl _ _) _)⟩, ⟨h3.below hb, blk_newS (by simp)⟩⟩
/-- What loads of the three read. -/
abbrev T3 (V : World) (k1 k2 k3 : Nat) (y1 : G) (p1 A1 : Option Addr) (c1 : Nat) (B1 : Option Addr) (d1 : Nat) (y2 : G) (p2 A2 : Option Addr) (c2 : Nat) (B2 : Option Addr) (d2 : Nat) (y3 : G) (p3 A3 : Option Addr) (c3 : Nat) (B3 : Option Addr) (d3 : Nat) (w' : World) : Prop := Q5 V k1 y1 p1 A1 c1 B1 d1 w' ∧ Q5 V k2 y2 p2 A2 c2 B2 d2 w' ∧ Q5 V k3 y3 p3 A3 c3 B3 d3 w'
theorem T3.next {V W W' : World} {k1 k2 k3 : Nat} {y1 : G} {p1 A1 : Option Addr} {c1 : Nat} {B1 : Option Addr} {d1 : Nat} {y2 : G} {p2 A2 : Option Addr} {c2 : Nat} {B2 : Option Addr} {d2 : Nat} {y3 : G} {p3 A3 : Option Addr} {c3 : Nat} {B3 : Option Addr} {d3 : Nat} (h : T3 V k1 k2 k3 y1 p1 A1 c1 B1 d1 y2 p2 A2 c2 B2 d2 y3 p3 A3 c3 B3 d3 W) (hb : Below W.heap.size W W') : T3 V k1 k2 k3 y1 p1 A1 c1 B1 d1 y2 p2 A2 c2 B2 d2 y3 p3 A3 c3 B3 d3 W' := ⟨Q5.next h.1 hb, Q5.next h.2.1 hb, Q5.next h.2.2 hb⟩
theorem T3.b {V W : World} {k1 k2 k3 : Nat} {y1 : G} {p1 A1 : Option Addr} {c1 : Nat} {B1 : Option Addr} {d1 : Nat} {y2 : G} {p2 A2 : Option Addr} {c2 : Nat} {B2 : Option Addr} {d2 : Nat} {y3 : G} {p3 A3 : Option Addr} {c3 : Nat} {B3 : Option Addr} {d3 : Nat} (h : T3 V k1 k2 k3 y1 p1 A1 c1 B1 d1 y2 p2 A2 c2 B2 d2 y3 p3 A3 c3 B3 d3 W) : Below V.heap.size V W := Q5.b h.1
theorem T3.of {V W : World} {k1 k2 k3 : Nat} {y1 : G} {p1 A1 : Option Addr} {c1 : Nat} {B1 : Option Addr} {d1 : Nat} {y2 : G} {p2 A2 : Option Addr} {c2 : Nat} {B2 : Option Addr} {d2 : Nat} {y3 : G} {p3 A3 : Option Addr} {c3 : Nat} {B3 : Option Addr} {d3 : Nat} (h : TZ k1 k2 k3 y1 p1 A1 c1 B1 d1 y2 p2 A2 c2 B2 d2 y3 p3 A3 c3 B3 d3 V) (hb : Below V.heap.size V W) : T3 V k1 k2 k3 y1 p1 A1 c1 B1 d1 y2 p2 A2 c2 B2 d2 y3 p3 A3 c3 B3 d3 W := ⟨Q5.of h.s1.h hb, Q5.of h.s2.h hb, Q5.of h.s3.h hb⟩
end Go.Proofs.YtjphmebhofkhcaaDoor.Seg
/- Segments: the walks of Delete, Forget and Untake. Conditions: right segments; texts of at most 2^30 bytes. -/
namespace Go.Proofs.YtjphmebhofkhcaaDoor.Seg
open Go.RowKit Go.Proofs.YtjphmebhofkhcaaDoorPl Go.Proofs.YtjphmebhofkhcaaDoorW.PrintWords Go.Proofs.YtjphmebhofkhcaaDoorW.PrintLast Go.Proofs.YtjphmebhofkhcaaDoorW.PrintMore Go.Proofs.YtjphmebhofkhcaaDoor.Rope Go.Proofs.YtjphmebhofkhcaaDoor.PSegAll Go.Proofs.YtjphmebhofkhcaaDoor.Pure
set_option linter.unusedVariables false
set_option linter.unusedSimpArgs false
end Go.Proofs.YtjphmebhofkhcaaDoor.Seg
/- Segments: the walks of Forget, marks.Of and Untake. Conditions: right segments; texts of at most 2^30 bytes. -/
namespace Go.Proofs.YtjphmebhofkhcaaDoor.Seg
open Go.RowKit Go.Proofs.YtjphmebhofkhcaaDoorPl Go.Proofs.YtjphmebhofkhcaaDoorW.PrintWords Go.Proofs.YtjphmebhofkhcaaDoorW.PrintLast Go.Proofs.YtjphmebhofkhcaaDoorW.PrintMore Go.Proofs.YtjphmebhofkhcaaDoor.Rope Go.Proofs.YtjphmebhofkhcaaDoor.PSegAll Go.Proofs.YtjphmebhofkhcaaDoor.Pure
set_option linter.unusedVariables false
set_option linter.unusedSimpArgs false
end Go.Proofs.YtjphmebhofkhcaaDoor.Seg
/- Segments: what is left of letters that are taken away, and what comes back. Conditions: right segments. -/
namespace Go.Proofs.YtjphmebhofkhcaaDoor.Seg
open Go.RowKit Go.Proofs.YtjphmebhofkhcaaDoorPl Go.Proofs.YtjphmebhofkhcaaDoorW.PrintWords Go.Proofs.YtjphmebhofkhcaaDoorW.PrintLast Go.Proofs.YtjphmebhofkhcaaDoorW.PrintMore Go.Proofs.YtjphmebhofkhcaaDoor.Rope Go.Proofs.YtjphmebhofkhcaaDoor.PSegAll Go.Proofs.YtjphmebhofkhcaaDoor.Pure
set_option linter.unusedVariables false
set_option linter.unusedSimpArgs false
theorem abc_places : (1 : Int) = clampI (cnt (tG ⟨#[97, 98, 99]⟩).f2) 1 ∧ (2 : Int) = 1 + lenI (cnt (tG ⟨#[97, 98, 99]⟩).f2) 1 1 := by
 show (1 : Int) = clampI (cnt ⟨#[97, 98, 99]⟩) 1 ∧ (2 : Int) = 1 + lenI (cnt ⟨#[97, 98, 99]⟩) 1 1
 rw [abc_cnt]
 exact ⟨rfl, rfl⟩
end Go.Proofs.YtjphmebhofkhcaaDoor.Seg
/- Marks: the walk of the reference's Part. Conditions: right marks of a text of at most 2000 letters. -/
namespace Go.Proofs.YtjphmebhofkhcaaDoor.Mk
open Go.RowKit Go.Proofs.YtjphmebhofkhcaaDoorPl Go.Proofs.YtjphmebhofkhcaaDoorW.PrintWords Go.Proofs.YtjphmebhofkhcaaDoorW.PrintLast Go.Proofs.YtjphmebhofkhcaaDoorW.PrintMore Go.Proofs.YtjphmebhofkhcaaDoor.PSegAll Go.Proofs.YtjphmebhofkhcaaDoor.Pure
set_option linter.unusedVariables false
set_option linter.unusedSimpArgs false
def RetS2 (v : Value) (o : List SY) (base : Nat) (w : World) (e : Ending) (w' : World) : Prop := ∃ v', e = .returned v' ∧ Kd.R kY 70 w' base (fun _ => True) v' o ∧ w.grownBy w' v.ownBlock ∧ ∀ k, v'.ownBlock = some k → v.ownBlock = some k ∨ w.heap.size ≤ k
theorem R_ownY {v : Value} {o : List SY} {base : Nat} {w : World} (h : Kd.R kY 70 w base (fun _ => True) v o) : Kd.R kY 70 w base (fun k => some k = v.ownBlock) v o := ⟨fun k hk => hk.symm, h.2.imp_ (fun x c hM => by rw [k70_openM hM]; exact k70_mkM _ _ _ _)⟩
theorem site2_calls (v : Value) (o : List SY) (s : SY) (w0 w : World) (hB : Below w0.heap.size w0 w) (h : Kd.R kY 70 w w0.heap.size (fun _ => True) v o) (hl : o.length < 8796093022208) :
  Calls Tryd.prog 77 #[v, .agg #[.int .i64 s.f0, .int .i64 s.f1]] w (RetS2 v (siteL o s) w0.heap.size w) := by
 obtain ⟨k, hk⟩ := Go.Proofs.YtjphmebhofkhcaaDoorW.PrintWords.Ev.rounds (ref_site_ev o s hl)
 refine (chancelref04_site.calls k (fun k => some k = v.ownBlock) v o s.f0 s.f1 (siteL o s) w0 w hB (R_ownY h) hk).mono ?_
 rintro e w' ⟨v', rfl, hr, hb, hk⟩
 exact ⟨v', rfl, Kd.R_mono hr (fun _ _ => trivial), ⟨hb.os.trans hB.os.symm, hb.tape.trans hB.tape.symm, hb.output.trans hB.output.symm, hk.1, fun k h2 hne => hk.2 k h2 hne⟩, fun k h2 => (hr.1 k h2).imp Eq.symm id⟩
theorem R_moveO {v : Value} {o : List SY} {base : Nat} {w w1 : World} (h : Kd.R kY 70 w base (fun _ => True) v o) (hm : ∀ k, v.ownBlock = some k → w1.heap[k]? = w.heap[k]?) : Kd.R kY 70 w1 base (fun _ => True) v o := Kd.R_mono (Kd.R_move (R_ownY h) (fun k hk => hm k hk.symm)) (fun _ _ => trivial)
theorem R_ltY {v : Value} {o : List SY} {base : Nat} {w : World} (h : Kd.R kY 70 w base (fun _ => True) v o) (k : Nat) (hk : v.ownBlock = some k) : k < w.heap.size := by
 obtain ⟨i, ho⟩ := Kd.R_own h
 exact own_lt ho k hk
theorem R_spY {W W' : World} {base : Nat} {v u : Value} {o : List SY} {xs : List Sp} (h : Kd.R kY 70 W base (fun _ => True) v o) (hs : Kd.R kSp 67 W base (fun _ => True) u xs) (hg : W.grownBy W' v.ownBlock) : Kd.R kSp 67 W' base (fun _ => True) u xs :=
 R_moveT rfl hs (fun g cs hc => hg.block g (blk_lt hc) (own_neY h hc (by decide)))
/-- Two marks in memory, whose sites grow. -/
structure PtZ (w : World) (gA gB : Nat) (va ya vb yb : Value) (oa ob : List SY) (pb : List Sp) (W : World) : Prop where
 b : Below w.heap.size w W
 la : w.heap.size ≤ gA
 lb : w.heap.size ≤ gB
 nab : gA ≠ gB
 ha : W.heap[gA]? = some (.cells #[va, ya] 74 (0, 0))
 hb : W.heap[gB]? = some (.cells #[vb, yb] 74 (0, 0))
 rs : Kd.R kSp 67 W w.heap.size (fun _ => True) vb pb
 ra : Kd.R kY 70 W w.heap.size (fun _ => True) ya oa
 rb : Kd.R kY 70 W w.heap.size (fun _ => True) yb ob
 ne : ∀ k, ya.ownBlock = some k → yb.ownBlock ≠ some k
theorem PtZ.next {w W W' : World} {gA gB : Nat} {va ya vb yb : Value} {oa ob : List SY} {pb : List Sp} (h : PtZ w gA gB va ya vb yb oa ob pb W) (hb : Below W.heap.size W W') : PtZ w gA gB va ya vb yb oa ob pb W' :=
 ⟨below_step h.b hb, h.la, h.lb, h.nab, blk_below h.ha hb, blk_below h.hb hb, Kd.R_below h.rs hb, Kd.R_below h.ra hb, Kd.R_below h.rb hb, h.ne⟩
theorem PtZ.siteA {w W W' : World} {gA gB : Nat} {va ya vb yb : Value} {oa ob o' : List SY} {pb : List Sp} (h : PtZ w gA gB va ya vb yb oa ob pb W) {e : Ending} (ha : RetS2 ya o' w.heap.size W e W') :
  ∃ v', e = .returned v' ∧ W'.heap[gA]? = some (.cells #[va, ya] 74 (0, 0)) ∧ PtZ w gA gB va v' vb yb o' ob pb (W'.setCell ⟨gA, 1, none⟩ v') := by
 obtain ⟨v', rfl, hr, hg, hn⟩ := ha
 have b1 := below_grown h.b hg (own_base h.ra)
 have hx := (hg.block gA (blk_lt h.ha) (own_neY h.ra h.ha (by decide))).trans h.ha
 have hy := (hg.block gB (blk_lt h.hb) (own_neY h.ra h.hb (by decide))).trans h.hb
 have r2 := R_moveO h.rb (fun k hk => hg.block k (R_ltY h.rb k hk) (fun e => h.ne k e.symm hk))
 have r3 := R_spY h.ra h.rs hg
 refine ⟨v', rfl, hx, below_set b1 h.la, h.la, h.lb, h.nab, by simpa using blk_set hx 1 v', blk_far hy h.nab.symm _, R_moveT rfl r3 (set_typeM hx (by decide) 1 _), R_moveT rfl hr (set_typeM hx (by decide) 1 _), R_moveT rfl r2 (set_typeM hx (by decide) 1 _), fun k hk => ?_⟩
 rcases hn k hk with h1 | h1
 ·exact h.ne k h1
 ·intro h2
  have := R_ltY h.rb k h2
  omega
theorem PtZ.siteB {w W W' : World} {gA gB : Nat} {va ya vb yb : Value} {oa ob o' : List SY} {pb : List Sp} (h : PtZ w gA gB va ya vb yb oa ob pb W) {e : Ending} (ha : RetS2 yb o' w.heap.size W e W') :
  ∃ v', e = .returned v' ∧ W'.heap[gB]? = some (.cells #[vb, yb] 74 (0, 0)) ∧ PtZ w gA gB va ya vb v' oa o' pb (W'.setCell ⟨gB, 1, none⟩ v') := by
 obtain ⟨v', rfl, hr, hg, hn⟩ := ha
 have b1 := below_grown h.b hg (own_base h.rb)
 have hx := (hg.block gA (blk_lt h.ha) (own_neY h.rb h.ha (by decide))).trans h.ha
 have hy := (hg.block gB (blk_lt h.hb) (own_neY h.rb h.hb (by decide))).trans h.hb
 have r2 := R_moveO h.ra (fun k hk => hg.block k (R_ltY h.ra k hk) (fun e => h.ne k hk e.symm))
 have r3 := R_spY h.rb h.rs hg
 refine ⟨v', rfl, hy, below_set b1 h.lb, h.la, h.lb, h.nab, blk_far hx h.nab _, by simpa using blk_set hy 1 v', R_moveT rfl r3 (set_typeM hy (by decide) 1 _), R_moveT rfl r2 (set_typeM hy (by decide) 1 _), R_moveT rfl hr (set_typeM hy (by decide) 1 _), fun k hk h2 => ?_⟩
 rcases hn k h2 with h1 | h1
 ·exact h.ne k hk h1
 ·have := R_ltY h.ra k hk
  omega
/-- The blocks of the results, and what the last loads read. -/
structure FinP (w : World) (g6 g7 g9 g10 : Nat) (va ya vb yb : Value) (pa pb : List Sp) (oa ob : List SY) (W : World) : Prop where
 b : Below w.heap.size w W
 b6 : ∃ u0 u1, W.heap[g6]? = some (.cells #[u0, u1] 74 (0, 0))
 b7 : ∃ u0 u1, W.heap[g7]? = some (.cells #[u0, u1] 74 (0, 0))
 b9 : W.heap[g9]? = some (.cells #[va, ya] 74 (0, 0))
 b10 : W.heap[g10]? = some (.cells #[vb, yb] 74 (0, 0))
 r9 : Kd.R kSp 67 W w.heap.size (fun _ => True) va pa
 s9 : Kd.R kY 70 W w.heap.size (fun _ => True) ya oa
 r10 : Kd.R kSp 67 W w.heap.size (fun _ => True) vb pb
 s10 : Kd.R kY 70 W w.heap.size (fun _ => True) yb ob
variable {w W W' : World} {g6 g7 g9 g10 : Nat} {va ya vb yb : Value} {pa pb : List Sp} {oa ob : List SY}
theorem FinP.next (h : FinP w g6 g7 g9 g10 va ya vb yb pa pb oa ob W) (hb : Below W.heap.size W W') : FinP w g6 g7 g9 g10 va ya vb yb pa pb oa ob W' := by
 obtain ⟨u0, u1, h6⟩ := h.b6
 obtain ⟨t0, t1, h7⟩ := h.b7
 exact ⟨below_step h.b hb, ⟨_, _, blk_below h6 hb⟩, ⟨_, _, blk_below h7 hb⟩, blk_below h.b9 hb, blk_below h.b10 hb, Kd.R_below h.r9 hb, Kd.R_below h.s9 hb, Kd.R_below h.r10 hb, Kd.R_below h.s10 hb⟩
theorem FinP.set6 (h : FinP w g6 g7 g9 g10 va ya vb yb pa pb oa ob W) (l6 : w.heap.size ≤ g6) (n7 : g6 ≠ g7) (n9 : g6 ≠ g9) (n10 : g6 ≠ g10) (v0 v1 : Value) : FinP w g6 g7 g9 g10 va ya vb yb pa pb oa ob ((W.setCell ⟨g6, 0, none⟩ v0).setCell ⟨g6, 1, none⟩ v1) := by
 obtain ⟨u0, u1, h6⟩ := h.b6
 obtain ⟨t0, t1, h7⟩ := h.b7
 exact ⟨below_set (below_set h.b l6) l6, ⟨_, _, blk_put (cs' := #[v0, v1]) (blk_put (cs' := #[v0, u1]) h6 0 _ rfl) 1 _ rfl⟩, ⟨_, _, blk_far (blk_far h7 n7.symm _) n7.symm _⟩, blk_far (blk_far h.b9 n9.symm _) n9.symm _, blk_far (blk_far h.b10 n10.symm _) n10.symm _,
  R_moveT rfl (R_moveT rfl h.r9 (set_typeM h6 (by decide) 0 _)) (set_typeM (blk_set h6 0 _) (by decide) 1 _), R_moveT rfl (R_moveT rfl h.s9 (set_typeM h6 (by decide) 0 _)) (set_typeM (blk_set h6 0 _) (by decide) 1 _), R_moveT rfl (R_moveT rfl h.r10 (set_typeM h6 (by decide) 0 _)) (set_typeM (blk_set h6 0 _) (by decide) 1 _), R_moveT rfl (R_moveT rfl h.s10 (set_typeM h6 (by decide) 0 _)) (set_typeM (blk_set h6 0 _) (by decide) 1 _)⟩
theorem FinP.set7 (h : FinP w g6 g7 g9 g10 va ya vb yb pa pb oa ob W) (l7 : w.heap.size ≤ g7) (n6 : g6 ≠ g7) (n9 : g7 ≠ g9) (n10 : g7 ≠ g10) (v0 v1 : Value) : FinP w g6 g7 g9 g10 va ya vb yb pa pb oa ob ((W.setCell ⟨g7, 0, none⟩ v0).setCell ⟨g7, 1, none⟩ v1) := by
 obtain ⟨u0, u1, h6⟩ := h.b6
 obtain ⟨t0, t1, h7⟩ := h.b7
 exact ⟨below_set (below_set h.b l7) l7, ⟨_, _, blk_far (blk_far h6 n6 _) n6 _⟩, ⟨_, _, blk_put (cs' := #[v0, v1]) (blk_put (cs' := #[v0, t1]) h7 0 _ rfl) 1 _ rfl⟩, blk_far (blk_far h.b9 n9.symm _) n9.symm _, blk_far (blk_far h.b10 n10.symm _) n10.symm _,
  R_moveT rfl (R_moveT rfl h.r9 (set_typeM h7 (by decide) 0 _)) (set_typeM (blk_set h7 0 _) (by decide) 1 _), R_moveT rfl (R_moveT rfl h.s9 (set_typeM h7 (by decide) 0 _)) (set_typeM (blk_set h7 0 _) (by decide) 1 _), R_moveT rfl (R_moveT rfl h.r10 (set_typeM h7 (by decide) 0 _)) (set_typeM (blk_set h7 0 _) (by decide) 1 _), R_moveT rfl (R_moveT rfl h.s10 (set_typeM h7 (by decide) 0 _)) (set_typeM (blk_set h7 0 _) (by decide) 1 _)⟩
/-- A cell that is there, told by itself. -/
@[irreducible] def CG (W : World) (g j : Nat) : Value := (W.cell? ⟨g, j, none⟩).getD undef
theorem CG_of {W : World} {g j : Nat} {u : Value} (h : W.cell? ⟨g, j, none⟩ = some u) : W.cell? ⟨g, j, none⟩ = some (CG W g j) := by unfold CG; rw [h]; rfl
abbrev SFP (w : World) (g6 g7 g9 g10 : Nat) (va ya vb yb : Value) (pa pb : List Sp) (oa ob : List SY) (W : World) : Prop :=
 W.cell? ⟨g9, 0, none⟩ = some va ∧ W.cell? ⟨g9, 1, none⟩ = some ya ∧ W.cell? ⟨g10, 0, none⟩ = some vb ∧ W.cell? ⟨g10, 1, none⟩ = some yb ∧
 W.cell? ⟨g6, 0, none⟩ = some (CG W g6 0) ∧ W.cell? ⟨g6, 1, none⟩ = some (CG W g6 1) ∧ W.cell? ⟨g7, 0, none⟩ = some (CG W g7 0) ∧ W.cell? ⟨g7, 1, none⟩ = some (CG W g7 1) ∧
 W.frozen? ⟨g6, 0, none⟩ = false ∧ W.frozen? ⟨g6, 1, none⟩ = false ∧ W.frozen? ⟨g7, 0, none⟩ = false ∧ W.frozen? ⟨g7, 1, none⟩ = false ∧ Hid (FinP w g6 g7 g9 g10 va ya vb yb pa pb oa ob W)
theorem FinP.sf (h : FinP w g6 g7 g9 g10 va ya vb yb pa pb oa ob W) : SFP w g6 g7 g9 g10 va ya vb yb pa pb oa ob W := by
 obtain ⟨x0, x1, h6⟩ := h.b6
 obtain ⟨t0, t1, h7⟩ := h.b7
 exact ⟨(blk_cell h.b9 0).trans rfl, (blk_cell h.b9 1).trans rfl, (blk_cell h.b10 0).trans rfl, (blk_cell h.b10 1).trans rfl, CG_of ((blk_cell h6 0).trans rfl), CG_of ((blk_cell h6 1).trans rfl), CG_of ((blk_cell h7 0).trans rfl), CG_of ((blk_cell h7 1).trans rfl), blk_frozen h6 0, blk_frozen h6 1, blk_frozen h7 0, blk_frozen h7 1, Lib.hid h⟩
theorem sitesA_pw {a : Int} {ys : List SY} (h : ys.Pairwise siteLt) : (sitesA a ys).Pairwise siteLt := h.filter _
theorem sitesB_pw {n a : Int} {ys : List SY} (h : sitesOk n none ys = true) (h0 : 0 ≤ a) (hn : n ≤ 2000) : sitesOk (n - a) none (sitesB a ys) = true := by
 obtain ⟨h1, h2, _⟩ := (sitesOk_iff n none ys).1 h
 have w : ∀ s ∈ ys.filter (fun y => !decide (y.f1 ≤ a)), wrap64 (s.f1 - a) = s.f1 - a ∧ 0 < s.f0 ∧ a < s.f1 ∧ s.f1 ≤ n := fun s hs => by
  have := h1 s ((List.mem_filter.1 hs).1)
  have h3 := (List.mem_filter.1 hs).2
  simp at h3
  exact ⟨wrap_id (by omega) (by omega), this.1, h3, this.2.2⟩
 refine (sitesOk_iff _ none _).2 ⟨fun s hs => ?_, ?_, fun q hq => by cases hq⟩
 ·obtain ⟨z, hz, rfl⟩ := List.mem_map.1 hs
  obtain ⟨e, g⟩ := w z hz
  show 0 < z.f0 ∧ 0 ≤ wrap64 (z.f1 - a) ∧ wrap64 (z.f1 - a) ≤ n - a
  rw [e]; omega
 ·unfold sitesB
  rw [List.pairwise_map]
  refine (List.Pairwise.and_mem.1 (h2.filter _)).imp ?_
  rintro x y ⟨hx, hy, hxy⟩
  obtain ⟨e, g⟩ := w x hx
  obtain ⟨e', g'⟩ := w y hy
  unfold siteLt at *
  show wrap64 (x.f1 - a) < wrap64 (y.f1 - a) ∨ wrap64 (x.f1 - a) = wrap64 (y.f1 - a) ∧ x.f0 < y.f0
  rw [e, e']; omega
def RetPt (pa : List Sp) (oa : List SY) (pb : List Sp) (ob : List SY) (w : World) (e : Ending) (w' : World) : Prop := ∃ A1 c1 B1 d1 A2 c2 B2 d2, e = .returned (.tuple #[.agg #[.slice A1 pa.length c1, .slice B1 oa.length d1], .agg #[.slice A2 pb.length c2, .slice B2 ob.length d2]]) ∧ Kd.R kSp 67 w' w.heap.size (fun _ => True) (.slice A1 pa.length c1) pa ∧ Kd.R kY 70 w' w.heap.size (fun _ => True) (.slice B1 oa.length d1) oa ∧ Kd.R kSp 67 w' w.heap.size (fun _ => True) (.slice A2 pb.length c2) pb ∧ Kd.R kY 70 w' w.heap.size (fun _ => True) (.slice B2 ob.length d2) ob ∧ Below w.heap.size w w'
set_option maxRecDepth 1000000 in
set_option maxHeartbeats 8000000 in
theorem refPart_calls (A : Option Addr) (c : Nat) (xs : List Sp) (B : Option Addr) (d : Nat) (ys : List SY) (N a : Nat) (w : World) (hr : Kd.C kSp w A xs.length xs) (hc : xs.length ≤ c) (hs : Kd.C kY w B ys.length ys) (hd : ys.length ≤ d) (hl : xs.length ≤ 1099511627776) (hly : ys.length ≤ 1099511627776)
  (hN : N ≤ 2000) (haN : a ≤ N) (hok : rightB (N : Int) xs ys = true) :
  Calls Tryd.prog 55 #[.agg #[.slice A xs.length c, .slice B ys.length d], .int .i64 (N : Int), .int .i64 (a : Int)] w (RetPt (partA a xs) (sitesA a ys) (partB a xs) (sitesB a ys) w) := by
 have HR := Lib.hid hr
 have HS := Lib.hid hs
 obtain ⟨hx, hy⟩ := right_iff.1 hok
 obtain ⟨ke, hke⟩ := Go.Proofs.YtjphmebhofkhcaaDoorW.PrintWords.Ev.rounds (ref_each_ev N (by omega) xs ys (by omega) (fun s hs => by have := ok_each hx s hs; omega))
 obtain ⟨old, hold⟩ : ∃ l, l = (List.range N).map (fun i : Nat => colr 0 xs (i : Int)) := ⟨_, rfl⟩
 rw [← hold] at hke
 have KE := Lib.hid hke
 have LOld : Hid (old.length = N) := Lib.hid (by rw [hold]; simp)
 obtain ⟨hA1, hA2⟩ := partA_ok (a := (a : Int)) hx (by omega) (by omega)
 obtain ⟨hB1, hB2⟩ := partB_ok (a := (a : Int)) hx (by omega) (by omega) (by omega)
 have u1 := spans_uniq hA1
 have u2 : spansFrom [] 0 ((List.range (N - a)).map fun i : Nat => colr 0 (partB (a : Int) xs) (i : Int)) = partB (a : Int) xs := spans_uniq (n := N - a) (by rw [show ((N - a : Nat) : Int) = (N : Int) - (a : Int) by omega]; exact hB1)
 rw [map_congr_range (g := fun i : Nat => colr 0 xs (i : Int)) fun i hi => hA2 _ (by omega) (by omega)] at u1
 rw [map_congr_range (g := fun i : Nat => colr 0 xs ((a + i : Nat) : Int)) fun i hi => hB2 _ (by omega) (by omega)] at u2
 rw [← take_range haN (fun i : Nat => colr 0 xs (i : Int)), ← hold] at u1
 rw [← drop_range (N := N) (a := a) (fun i : Nat => colr 0 xs (i : Int)), ← hold] at u2
 obtain ⟨k1, hk1⟩ := Go.Proofs.YtjphmebhofkhcaaDoorW.PrintWords.Ev.rounds (ref_spans_ev (old.take a) (by have := LOld.out; simp; omega))
 obtain ⟨k2, hk2⟩ := Go.Proofs.YtjphmebhofkhcaaDoorW.PrintWords.Ev.rounds (ref_spans_ev (old.drop a) (by have := LOld.out; simp; omega))
 rw [u1] at hk1
 rw [u2] at hk2
 obtain ⟨pa, hpa⟩ : ∃ l, l = partA (a : Int) xs := ⟨_, rfl⟩
 obtain ⟨pb, hpb⟩ : ∃ l, l = partB (a : Int) xs := ⟨_, rfl⟩
 rw [← hpa] at hk1 ⊢
 rw [← hpb] at hk2 ⊢
 have K1 := Lib.hid hk1
 have K2 := Lib.hid hk2
 have WS : Hid (∀ y ∈ ys, 0 ≤ y.f1 ∧ y.f1 ≤ (N : Int)) := Lib.hid (fun y hy' => by have := ((sitesOk_iff _ none ys).1 hy).1 y hy'; omega)
 have EA : Hid (normY (sitesA (a : Int) ys) = sitesA (a : Int) ys) := Lib.hid (normY_sorted (sitesA_pw ((sitesOk_iff _ none ys).1 hy).2.1))
 have EB : Hid (normY (sitesB (a : Int) ys) = sitesB (a : Int) ys) := Lib.hid (normY_sorted ((sitesOk_iff _ none _).1 (sitesB_pw hy (by omega) (by omega))).2.1)
 clear hr hs hke hok hold u1 u2 hA1 hA2 hB1 hB2 hx hy hk1 hk2 hpa hpb
 go_enter Tryd.func55, Tryd.ntmps55
 go_upto_region 1 with fail
 refine gen2 (φ := fun W => Code.wp _ _ _ _ W) (P := fun W => Below w.heap.size w W ∧ W.heap[w.heap.size]? = some (.cells #[.slice A xs.length c, .slice B ys.length d] 74 (0, 0)) ∧ W.heap[w.heap.size + 1]? = some (.cells #[.slice none 0 0, .slice none 0 0] 74 (0, 0)) ∧ W.heap[w.heap.size + 1 + 1]? = some (.cells #[.slice none 0 0, .slice none 0 0] 74 (0, 0))) ⟨below_alloc (below_alloc (below_alloc (Below.refl _ _) _) _) _, blk_alloc (blk_alloc (blk_new w _) _) _, blk_alloc (blk_newM (by simp)) _, blk_newM (by simp)⟩ ?_
 rintro V0 ⟨hb0, h3, h6, h7⟩
 have B0 := Lib.hid hb0
 have X3 := Lib.hid h3
 have X6 := Lib.hid h6
 have X7 := Lib.hid h7
 have x0 := (blk_cell h3 0).trans rfl
 have x1 := (blk_cell h3 1).trans rfl
 clear hb0 h3 h6 h7
 go_wp2_with fail
 (go_at_call 75; refine (chancelref04_each.calls ke A c xs B d ys (N : Int) old _ (Kd.C_below HR.out B0.out) hc (Kd.C_below HS.out B0.out) hd KE.out).mono ?_; rintro e w3 ⟨v3, rfl, hr3, hb3⟩)
 obtain ⟨A3, c3, e3, hc3, hC3⟩ := Kd.R_reads hr3
 subst e3
 have B3 := Lib.hid (below_step B0.out hb3)
 have Y3 := Lib.hid (blk_below X3.out hb3)
 have Y6 := Lib.hid (blk_below X6.out hb3)
 have Y7 := Lib.hid (blk_below X7.out hb3)
 have C3 := Lib.hid hC3
 have HC3 := Lib.hid hc3
 clear hr3 hb3 hC3 hc3 x0 x1 X3 X6 X7 B0 KE
 obtain ⟨i3, hi3, hsz3⟩ := infoI2
 have hcut1 := cut_to (P := Tryd.prog) 83 3 .i64 Tryd.underlying83 hi3 A3 old.length c3 (a : Int) (by omega) (by have := LOld.out; omega) HC3.out
 have hcut2 := cut_from (P := Tryd.prog) 83 3 .i64 Tryd.underlying83 hi3 1 hsz3 A3 old.length c3 (a : Int) (by omega) (by have := LOld.out; omega)
 rw [Int.toNat_natCast] at hcut1 hcut2
 have hC1 := Lib.hid (Kd.C_take (m := a) C3.out (by have := LOld.out; omega))
 have hC2 : Hid (Kd.C (Kd.int .i64) w3 (if c3 = a then A3 else A3.map (·.add (a * 1))) (old.drop a).length (old.drop a)) := Lib.hid (Kd.C_drop (c := c3) (m := a) C3.out (by have := LOld.out; omega) HC3.out)
 have e1 : (old.take a).length = a := by rw [List.length_take]; have := LOld.out; omega
 have e2 : (old.drop a).length = old.length - a := by rw [List.length_drop]
 have L1 : Hid ((old.take a).length ≤ c3) := Lib.hid (by have := HC3.out; rw [e1]; have := LOld.out; omega)
 have L2 : Hid ((old.drop a).length ≤ c3 - a) := Lib.hid (by have := HC3.out; rw [e2]; omega)
 rw [← e2] at hcut2
 generalize (if c3 = a then A3 else A3.map (·.add (a * 1))) = A4 at hcut2 hC2
 replace hcut1 : ∀ W : World, (Instr.slice 83 (.slice A3 old.length c3) none (some (.int .i64 (a : Int))) none).run Tryd.prog W = .ok (.slice A3 (old.take a).length c3) W := by rw [e1]; exact hcut1
 clear e1 e2 hi3 hsz3
 generalize hlt : old.take a = la at hcut1 hC1 K1 L1
 generalize hld : old.drop a = ld at hcut2 hC2 K2 L2
 clear hlt hld C3 LOld HC3
 go_upto_region 3 with (first | (go_at_call 76; refine (chancelref04_spans.calls k1 _ _ la pa _ hC1.out L1.out K1.out).mono ?_; rintro e wq ⟨vq, rfl, hrq, hbq⟩; obtain ⟨Aq, cq, eq⟩ := Kd.R_slice hrq; subst eq; have Rq := Lib.hid hrq; have HBq := Lib.hid hbq; clear hrq hbq) | ((with_reducible refine gate_dst (N := 9) rfl ?_); refine box_event ?hg (N := 9) ?hd (cs := #[.slice none 0 0, .slice none 0 0]) (t := 74) ?hr ?_; (case hd => rfl); (case hg => rfl); (case hr => first | (go_simp; done) | (go_simp; rfl)); intro g9 hg9 w9 hx9 hb9; have hgB : wq.heap.size ≤ g9 := (by rw [hg9]; exact Nat.le_refl _); have G9 := Lib.hid (And.intro hgB (And.intro hx9 hb9)); have q0 := (blk_cell hx9 0).trans rfl; have q1 := (blk_cell hx9 1).trans rfl; have z0 := blk_frozen hx9 0; have z1 := blk_frozen hx9 1; clear hg9 hx9 hb9 hgB))
 refine gen2 (φ := fun W => Code.wp _ _ _ _ W) (P := fun W => Below wq.heap.size wq W ∧ W.heap[g9]? = some (.cells #[.slice Aq pa.length cq, .slice none 0 0] 74 (0, 0))) ⟨below_set (below_set G9.out.2.2 G9.out.1) G9.out.1, by simpa using blk_set (blk_set G9.out.2.1 0 (.slice Aq pa.length cq)) 1 (.slice none 0 0)⟩ ?_
 rintro V2 ⟨hb2, h9⟩
 have B2 := Lib.hid hb2
 have X9 := Lib.hid h9
 have L9 := Lib.hid G9.out.1
 clear hb2 h9 G9 q0 q1 z0 z1 hcut1 hC1 L1 K1
 go_upto_region 4 with (first | (go_at_call 76; refine (chancelref04_spans.calls k2 _ _ ld pb _ (Kd.C_below hC2.out (below_step HBq.out B2.out)) L2.out K2.out).mono ?_; rintro e wr ⟨vr, rfl, hrr, hbr⟩; obtain ⟨Ar, cr, er⟩ := Kd.R_slice hrr; subst er; have Rr := Lib.hid hrr; have HBr := Lib.hid hbr; clear hrr hbr) | ((with_reducible refine gate_dst (N := 10) rfl ?_); refine box_event ?hg (N := 10) ?hd (cs := #[.slice none 0 0, .slice none 0 0]) (t := 74) ?hr ?_; (case hd => rfl); (case hg => rfl); (case hr => first | (go_simp; done) | (go_simp; rfl)); intro g10 hg10 w10 hx10 hb10; have hgB : wr.heap.size ≤ g10 := (by rw [hg10]; exact Nat.le_refl _); have G10 := Lib.hid (And.intro hgB (And.intro hx10 hb10)); have q0 := (blk_cell hx10 0).trans rfl; have q1 := (blk_cell hx10 1).trans rfl; have z0 := blk_frozen hx10 0; have z1 := blk_frozen hx10 1; clear hg10 hx10 hb10 hgB))
 refine gen2 (φ := fun W => Code.wp _ _ _ _ W) (P := fun W => PtZ wq g9 g10 (.slice Aq pa.length cq) (.slice none 0 0) (.slice Ar pb.length cr) (.slice none 0 0) [] [] pb W) ?hz ?_
 case hz =>
  have hb := below_step (below_step B2.out HBr.out) G10.out.2.2
  have l9 := blk_lt X9.out
  have l10 := Nat.le_trans HBr.out.size G10.out.1
  have lq := Nat.le_trans B2.out.size l10
  have l99 := L9.out
  have nab : g9 ≠ g10 := by omega
  have hx9 := blk_below (blk_below X9.out HBr.out) G10.out.2.2
  have r10 := Kd.R_mono (ok' := fun _ => True) (Kd.R_below (Kd.R_lower Rr.out B2.out.size) G10.out.2.2) (fun _ _ => trivial)
  exact ⟨below_set (below_set hb lq) lq, l99, lq, nab, blk_far (blk_far hx9 nab _) nab _, by simpa using blk_set (blk_set G10.out.2.1 0 (.slice Ar pb.length cr)) 1 (.slice none 0 0), R_moveT rfl (R_moveT rfl r10 (set_typeM G10.out.2.1 (by decide) 0 _)) (set_typeM (blk_set G10.out.2.1 0 _) (by decide) 1 _), Kd.R_nil _ _ _ _ _, Kd.R_nil _ _ _ _ _, fun k hk => by simp [Value.ownBlock] at hk⟩
 rintro V1 hV1
 have S1 := Lib.hid hV1
 have BQ := Lib.hid (below_step B3.out HBq.out)
 have Q3 := Lib.hid (blk_below Y3.out HBq.out)
 have Q6 := Lib.hid (blk_below Y6.out HBq.out)
 have Q7 := Lib.hid (blk_below Y7.out HBq.out)
 have RQ := Lib.hid (Kd.R_mono (ok' := fun _ => True) (Kd.R_lower Rq.out B3.out.size) (fun _ _ => trivial))
 clear hV1 G10 q0 q1 z0 z1 hcut2 hC2 L2 K2 Rq Rr HBr X9 L9 B2 HBq B3 Y3 Y6 Y7
 go_wp2
 go_loopw [11] (fun s11 wr => ∃ (kk : Nat) (ya yb : Value), kk ≤ ys.length ∧ s11 = .int .i64 (kk : Int) ∧ Hid (PtZ wq g9 g10 (.slice Aq pa.length cq) ya (.slice Ar pb.length cr) yb (normY (sitesA (a : Int) (ys.take kk))) (normY (sitesB (a : Int) (ys.take kk))) pb wr)) (fun s11 _ => ys.length - cntM s11)
 case atStart => exact ⟨0, _, _, Nat.zero_le _, rfl, S1⟩
 case round =>
  obtain ⟨kk, ya, yb, hkk, rfl, ZW⟩ := hrel
  clear S1
  have x31 := (blk_cell (blk_below Q3.out ZW.out.b) 1).trans rfl
  by_cases hlt : kk < ys.length
  ·have d1 : decide ((kk : Int) < (ys.length : Int)) = true := by simp; omega
   have b1 : (0 : Int) ≤ (kk : Int) := by omega
   have b2 : (kk : Int) < (ys.length : Int) := by omega
   have w1_ : IntKind.i64.wrap ((kk : Int) + 1) = (kk : Int) + 1 := IntWalk.i64_in _ (by omega)
   obtain ⟨y, hy⟩ : ∃ y, ys[kk]? = some y := ⟨_, List.getElem?_eq_getElem hlt⟩
   have hye : ys[kk]'hlt = y := (List.getElem?_eq_some_iff.1 hy).2
   have et : ys.take (kk + 1) = ys.take kk ++ [y] := by rw [List.take_succ_eq_append_getElem hlt, hye]
   have LA : Hid ((normY (sitesA (a : Int) (ys.take kk))).length ≤ 1099511627776) := Lib.hid (by
    have h1 := normY_len (sitesA (a : Int) (ys.take kk))
    have h2 : (sitesA (a : Int) (ys.take kk)).length ≤ (ys.take kk).length := List.length_filter_le _ _
    rw [List.length_take] at h2
    omega)
   have LB : Hid ((normY (sitesB (a : Int) (ys.take kk))).length ≤ 1099511627776) := Lib.hid (by
    have h1 := normY_len (sitesB (a : Int) (ys.take kk))
    have h2 : (sitesB (a : Int) (ys.take kk)).length ≤ (ys.take kk).length := by unfold sitesB; rw [List.length_map]; exact List.length_filter_le _ _
    rw [List.length_take] at h2
    omega)
   obtain ⟨ad, e0, y0, y1⟩ := at_Y (Kd.C_below HS.out (below_step BQ.out ZW.out.b)) hy hlt
   subst e0
   have hyw : 0 ≤ y.f1 ∧ y.f1 ≤ (N : Int) := WS.out y (List.mem_of_getElem? hy)
   clear hy hye
   obtain ⟨z, hz⟩ : ∃ z, z = y.f1 - (a : Int) := ⟨_, rfl⟩
   have ew : IntKind.i64.wrap (y.f1 - (a : Int)) = z := by rw [hz]; exact IntWalk.i64_in _ (by omega)
   have ewz : wrap64 (y.f1 - (a : Int)) = z := by rw [hz]; exact wrap_id (by omega) (by omega)
   by_cases hg : y.f1 ≤ (a : Int)
   ·have d' : decide (y.f1 ≤ (a : Int)) = true := by simpa using hg
    have SA : Hid (normY (sitesA (a : Int) (ys.take (kk + 1))) = siteL (normY (sitesA (a : Int) (ys.take kk))) y ∧ normY (sitesB (a : Int) (ys.take (kk + 1))) = normY (sitesB (a : Int) (ys.take kk))) := Lib.hid (by
     rw [et]
     refine ⟨?_, ?_⟩
     ·unfold sitesA; rw [List.filter_append, List.filter_cons_of_pos (by simpa using hg)]; unfold normY; rw [List.foldl_append]; rfl
     ·unfold sitesB; rw [List.filter_append, List.filter_cons_of_neg (by simpa using hg)]; simp)
    clear hyw hz ewz et hg
    generalize normY (sitesA (a : Int) (ys.take kk)) = oa at ZW SA LA
    generalize normY (sitesB (a : Int) (ys.take kk)) = ob at ZW SA LB
    go_upto_region 8 with (first | ((with_reducible refine gate_dst (N := 12) rfl ?_); refine box_event ?hg (N := 12) ?hd (cs := #[.int .i64 0, .int .i64 0]) (t := 70) ?hr ?_; (case hd => rfl); (case hg => rfl); (case hr => first | (go_simp; done) | (go_simp; rfl)); intro gS hgS wS hxS hbS; have GS := Lib.hid (show TBm 70 wr gS #[.int .i64 0, .int .i64 0] wS from ⟨hbS, by rw [hgS]; exact Nat.le_refl _, hxS⟩); have q0 := (blk_cell hxS 0).trans rfl; have q1 := (blk_cell hxS 1).trans rfl; have z0 := blk_frozen hxS 0; have z1 := blk_frozen hxS 1; clear hgS hxS hbS))
    refine gen2 (φ := fun W => Code.wp _ _ _ _ W) (P := fun W => TBm 70 wr gS #[.int .i64 y.f0, .int .i64 y.f1] W) ((GS.out.set 0 (.int .i64 y.f0)).set 1 (.int .i64 y.f1)) ?_
    clear q0 q1 z0 z1 GS y0 y1 x31
    rintro V4 hV4
    have Z4 := Lib.hid (ZW.out.next hV4.b)
    have s0 := (blk_cell hV4.hx 0).trans rfl
    have s1 := (blk_cell hV4.hx 1).trans rfl
    clear hV4 ZW
    have t1 := (blk_cell Z4.out.ha 1).trans rfl
    have g1 := blk_frozen Z4.out.ha 1
    go_wp2_with fail
    (go_at_call 77; refine (site2_calls ya oa y wq _ Z4.out.b Z4.out.ra (by have := LA.out; omega)).mono ?_; rintro e w5 ha5)
    obtain ⟨v5, rfl, hx5, z5⟩ := Z4.out.siteA ha5
    obtain ⟨A6, c6, e6⟩ := Kd.R_slice z5.ra
    subst e6
    have Z5 := Lib.hid z5
    have g1 := blk_frozen hx5 1
    have t1 := (blk_cell hx5 1).trans rfl
    clear ha5 hx5 z5 s0 s1 Z4
    go_upto_region 6 with fail
    refine gen2 (φ := fun W => Code.wp _ _ _ _ W) (P := fun W => PtZ wq g9 g10 (.slice Aq pa.length cq) (.slice A6 (siteL oa y).length c6) (.slice Ar pb.length cr) yb (siteL oa y) ob pb W) Z5.out ?_
    rintro V5 hV5
    have Z6 := Lib.hid hV5
    clear hV5 Z5 g1 t1
    go_wp2
    go_roundw
    case rel => exact ⟨kk + 1, _, _, by omega, by go_num, by rw [SA.out.1, SA.out.2]; exact Z6⟩
    case measure =>
     simp only [cntM]
     omega
   ·have d' : decide (y.f1 ≤ (a : Int)) = false := by simpa using hg
    have SA : Hid (normY (sitesA (a : Int) (ys.take (kk + 1))) = normY (sitesA (a : Int) (ys.take kk)) ∧ normY (sitesB (a : Int) (ys.take (kk + 1))) = siteL (normY (sitesB (a : Int) (ys.take kk))) ⟨y.f0, z⟩) := Lib.hid (by
     rw [et]
     refine ⟨?_, ?_⟩
     ·unfold sitesA; rw [List.filter_append, List.filter_cons_of_neg (by simpa using hg)]; simp
     ·unfold sitesB; rw [List.filter_append, List.filter_cons_of_pos (by simpa using hg), List.map_append]; unfold normY; rw [List.foldl_append]; rw [← ewz]; rfl)
    clear hyw hz ewz et hg
    generalize normY (sitesA (a : Int) (ys.take kk)) = oa at ZW SA LA
    generalize normY (sitesB (a : Int) (ys.take kk)) = ob at ZW SA LB
    go_upto_region 8 with (first | ((with_reducible refine gate_dst (N := 12) rfl ?_); refine box_event ?hg (N := 12) ?hd (cs := #[.int .i64 0, .int .i64 0]) (t := 70) ?hr ?_; (case hd => rfl); (case hg => rfl); (case hr => first | (go_simp; done) | (go_simp; rfl)); intro gS hgS wS hxS hbS; have GS := Lib.hid (show TBm 70 wr gS #[.int .i64 0, .int .i64 0] wS from ⟨hbS, by rw [hgS]; exact Nat.le_refl _, hxS⟩); have q0 := (blk_cell hxS 0).trans rfl; have q1 := (blk_cell hxS 1).trans rfl; have z0 := blk_frozen hxS 0; have z1 := blk_frozen hxS 1; clear hgS hxS hbS))
    refine gen2 (φ := fun W => Code.wp _ _ _ _ W) (P := fun W => TBm 70 wr gS #[.int .i64 y.f0, .int .i64 y.f1] W) ((GS.out.set 0 (.int .i64 y.f0)).set 1 (.int .i64 y.f1)) ?_
    clear q0 q1 z0 z1 GS y0 y1 x31
    rintro V4 hV4
    have Z4 := Lib.hid (ZW.out.next hV4.b)
    have s0 := (blk_cell hV4.hx 0).trans rfl
    have s1 := (blk_cell hV4.hx 1).trans rfl
    clear hV4 ZW
    have t1 := (blk_cell Z4.out.hb 1).trans rfl
    have g1 := blk_frozen Z4.out.hb 1
    go_wp2_with fail
    (go_at_call 77; refine (site2_calls yb ob ⟨y.f0, z⟩ wq _ Z4.out.b Z4.out.rb (by have := LB.out; omega)).mono ?_; rintro e w5 ha5)
    obtain ⟨v5, rfl, hx5, z5⟩ := Z4.out.siteB ha5
    obtain ⟨A6, c6, e6⟩ := Kd.R_slice z5.rb
    subst e6
    have Z5 := Lib.hid z5
    have g1 := blk_frozen hx5 1
    have t1 := (blk_cell hx5 1).trans rfl
    clear ha5 hx5 z5 s0 s1 Z4
    go_upto_region 6 with fail
    refine gen2 (φ := fun W => Code.wp _ _ _ _ W) (P := fun W => PtZ wq g9 g10 (.slice Aq pa.length cq) ya (.slice Ar pb.length cr) (.slice A6 (siteL ob ⟨y.f0, z⟩).length c6) oa (siteL ob ⟨y.f0, z⟩) pb W) Z5.out ?_
    rintro V5 hV5
    have Z6 := Lib.hid hV5
    clear hV5 Z5 g1 t1
    go_wp2
    go_roundw
    case rel => exact ⟨kk + 1, _, _, by omega, by go_num, by rw [SA.out.1, SA.out.2]; exact Z6⟩
    case measure =>
     simp only [cntM]
     omega
  ·have d1 : decide ((kk : Int) < (ys.length : Int)) = false := by simp; omega
   obtain rfl : kk = ys.length := by omega
   rw [List.take_length, EA.out, EB.out] at ZW
   clear EA EB
   generalize hoa : sitesA (a : Int) ys = oa at ZW
   generalize hob : sitesB (a : Int) ys = ob at ZW
   have HO := Lib.hid (And.intro hoa hob)
   clear hoa hob
   go_upto_region 11 with fail
   obtain ⟨Ay, cy, ey⟩ := Kd.R_slice ZW.out.ra
   obtain ⟨Az, cz, ez⟩ := Kd.R_slice ZW.out.rb
   subst ey ez
   have l6 : w.heap.size ≤ w.heap.size + 1 := by omega
   have l7 : w.heap.size ≤ w.heap.size + 1 + 1 := by omega
   have nq6 := Lib.hid (blk_lt Q6.out)
   have nq7 := Lib.hid (blk_lt Q7.out)
   have n9 := Lib.hid ZW.out.la
   have n10 := Lib.hid ZW.out.lb
   have HF := Lib.hid (show FinP w (w.heap.size + 1) (w.heap.size + 1 + 1) g9 g10 (.slice Aq pa.length cq) (.slice Ay oa.length cy) (.slice Ar pb.length cr) (.slice Az ob.length cz) pa pb oa ob wr from ⟨below_step BQ.out ZW.out.b, ⟨_, _, blk_below Q6.out ZW.out.b⟩, ⟨_, _, blk_below Q7.out ZW.out.b⟩, ZW.out.ha, ZW.out.hb, Kd.R_below RQ.out ZW.out.b, Kd.R_lower ZW.out.ra BQ.out.size, Kd.R_lower ZW.out.rs BQ.out.size, Kd.R_lower ZW.out.rb BQ.out.size⟩)
   have H6 := Lib.hid (blk_below Q6.out ZW.out.b)
   have H7 := Lib.hid (blk_below Q7.out ZW.out.b)
   have hN1 : w.heap.size + 1 ≠ w.heap.size + 1 + 1 := by omega
   have hN2 : w.heap.size + 1 ≠ g9 := by have := nq6.out; have := n9.out; omega
   have hN3 : w.heap.size + 1 ≠ g10 := by have := nq6.out; have := n10.out; omega
   have hN4 : w.heap.size + 1 + 1 ≠ g9 := by have := nq7.out; have := n9.out; omega
   have hN5 : w.heap.size + 1 + 1 ≠ g10 := by have := nq7.out; have := n10.out; omega
   clear ZW Q3 Q6 Q7 RQ BQ x31 d1 nq6 nq7 n9 n10 HR HS WS
   generalize w.heap.size + 1 + 1 = g7 at *
   generalize hg6 : w.heap.size + 1 = g6 at *
   clear hg6
   have hM1 := hN1.symm
   have hM2 := hN2.symm
   have hM3 := hN3.symm
   have hM4 := hN4.symm
   have hM5 := hN5.symm
   have hsf := HF.out.sf
   go_region_held3 (fun w' => SFP w g6 g7 g9 g10 (.slice Aq pa.length cq) (.slice Ay oa.length cy) (.slice Ar pb.length cr) (.slice Az ob.length cz) pa pb oa ob w')
    (first | exact hsf | (refine FinP.sf (w := w) (pa := pa) (pb := pb) (oa := oa) (ob := ob) ?_; repeat (first | exact HF.out | with_reducible refine FinP.next ?_ (below_drew1 (Below.refl _ _)) | with_reducible refine FinP.set7 ?_ l7 hN1 hN4 hN5 _ _ | with_reducible refine FinP.set6 ?_ l6 hN1 hN2 hN3 _ _)))
    (fail)
   all_goals
    go_wp2
    have k6 := blk_drew (blk_far (blk_far (blk_put (cs' := #[.slice Aq pa.length cq, .slice Ay oa.length cy]) (blk_put (cs' := #[.slice Aq pa.length cq, .slice none 0 0]) H6.out 0 (.slice Aq pa.length cq) rfl) 1 (.slice Ay oa.length cy) rfl) (p := ⟨g7, 0, none⟩) hN1 (.slice Ar pb.length cr)) (p := ⟨g7, 1, none⟩) hN1 (.slice Az ob.length cz))
    have k7 := blk_drew (blk_put (cs' := #[.slice Ar pb.length cr, .slice Az ob.length cz]) (blk_put (cs' := #[.slice Ar pb.length cr, .slice none 0 0]) (blk_far (blk_far H7.out (p := ⟨g6, 0, none⟩) hM1 (.slice Aq pa.length cq)) (p := ⟨g6, 1, none⟩) hM1 (.slice Ay oa.length cy)) 0 (.slice Ar pb.length cr) rfl) 1 (.slice Az ob.length cz) rfl)
    have hF := ((HF.out.set6 l6 hN1 hN2 hN3 (.slice Aq pa.length cq) (.slice Ay oa.length cy)).set7 l7 hN1 hN4 hN5 (.slice Ar pb.length cr) (.slice Az ob.length cz)).next (below_drew1 (Below.refl _ _))
    refine bodyPost_ret (results_cc rfl _ _ g6 g7 74 74 #[.slice Aq pa.length cq, .slice Ay oa.length cy] #[.slice Ar pb.length cr, .slice Az ob.length cz] (0, 0) (0, 0) _ _ rfl k6 Tryd.underlying74 rfl (by kernel_rfl) rfl k7 Tryd.underlying74 rfl (by kernel_rfl)) rfl ?_
    unfold RetPt
    rw [HO.out.1, HO.out.2]
    exact ⟨Aq, cq, Ay, cy, Ar, cr, Az, cz, rfl, hF.r9, hF.s9, hF.r10, hF.s10, hF.b⟩
end Go.Proofs.YtjphmebhofkhcaaDoor.Mk
/- Segments: the document's places and cuts. Conditions: right texts of at most 2^30 bytes. -/
namespace Go.Proofs.YtjphmebhofkhcaaDoor.Seg
open Go.RowKit Go.Proofs.YtjphmebhofkhcaaDoorPl Go.Proofs.YtjphmebhofkhcaaDoorW.PrintWords Go.Proofs.YtjphmebhofkhcaaDoorW.PrintLast Go.Proofs.YtjphmebhofkhcaaDoorW.PrintMore Go.Proofs.YtjphmebhofkhcaaDoor.Rope Go.Proofs.YtjphmebhofkhcaaDoor.PSegAll Go.Proofs.YtjphmebhofkhcaaDoor.Pure
set_option linter.unusedVariables false
set_option linter.unusedSimpArgs false
attribute [local go_sem] max2_int min2_int max_two min_two
theorem rcut5_calls (s : ByteArray) (a b : Int) (w : World) (hv : Lib.validD s.data.toList = true) (hs : s.size ≤ 1099511627776) : Calls Tryd.prog 56 #[.string s, .int .i64 a, .int .i64 b] w fun e w' => e = .returned (.string (cutT s a b)) ∧ Below w.heap.size w w' := by
 obtain ⟨r, hr, hd⟩ := Cut_ev (lets_ok hv).1 (lets_ok hv).2 hs a b
 obtain ⟨k, hk⟩ := Go.Proofs.YtjphmebhofkhcaaDoorW.PrintWords.Ev.rounds hr
 have e : r = cutT s a b := ofL_eq hd
 rw [← e]
 refine (chancelref01_Cut.calls k s a b r w hk).mono ?_
 rintro e w' ⟨rfl, h⟩
 exact ⟨rfl, below_drawn h⟩
set_option maxRecDepth 100000 in
set_option maxHeartbeats 2000000 in
theorem rplaces5_calls (x : G) (A : Option Addr) (c : Nat) (B : Option Addr) (d : Nat) (at_ n : Int) (w : World) (hv : Lib.validD x.f2.data.toList = true) (hs : x.f2.size ≤ 1099511627776) {a b : Int} (ha : a = clampI (cnt x.f2) at_) (hb_ : b = a + lenI (cnt x.f2) a n) :
  Calls Tryd.prog 54 #[.agg (gC x A c B d), .int .i64 at_, .int .i64 n] w fun e w' => e = .returned (.tuple #[.int .i64 a, .int .i64 b]) ∧ Below w.heap.size w w' := by
 have hin := cnt_in hv hs
 have hcl := clamp_in (a := at_) hin.1
 have hln := len_in (n := n) hcl.2
 rw [← ha] at hln hcl
 obtain ⟨m, hm⟩ : ∃ m, m = cnt x.f2 := ⟨_, rfl⟩
 rw [← hm] at hin hcl hln ha hb_
 obtain ⟨e0, he0⟩ : ∃ z, (if at_ < 0 then (0 : Int) else at_) = z := ⟨_, rfl⟩
 obtain ⟨e3, he3⟩ : ∃ z, (if m < e0 then m else e0) = z := ⟨_, rfl⟩
 have e4 : e3 = a := by rw [ha]; unfold clampI; rw [he0]; exact he3.symm
 subst e4
 obtain ⟨e1, he1⟩ : ∃ z, (if n < 0 then (0 : Int) else n) = z := ⟨_, rfl⟩
 obtain ⟨e2, he2⟩ : ∃ z, (if m - e3 < e1 then m - e3 else e1) = z := ⟨_, rfl⟩
 have el : lenI m e3 n = e2 := by unfold lenI; rw [he1]; exact he2
 rw [el] at hln hb_
 subst hb_
 have wa_ : IntKind.i64.wrap (m - e3) = m - e3 := IntWalk.i64_in _ (by omega)
 have wb_ : IntKind.i64.wrap (e3 + e2) = e3 + e2 := IntWalk.i64_in _ (by omega)
 have HN := Lib.hid hm
 clear hm el hin hcl hln ha
 go_enter Tryd.func54, Tryd.ntmps54
 go_wp2_with (first | (go_at_call 40; refine (count5_calls x.f2 _ hv hs).mono ?_; rw [← HN.out]; rintro e w1 ⟨rfl, hb1⟩; have B1 := Lib.hid (below_step (below_alloc (Below.refl _ _) _) hb1); clear hb1))
 refine bodyPost_ret (results_list (rs := [.tmp 6, .tmp 7]) rfl (by simp) (.tmp (.tmp .nil))) rfl ?_
 exact ⟨rfl, B1.out⟩
end Go.Proofs.YtjphmebhofkhcaaDoor.Seg
/- Segments: the walks of Piece and Twin. Conditions: texts of at most 2^40 bytes. -/
namespace Go.Proofs.YtjphmebhofkhcaaDoor.Seg
open Go.RowKit Go.Proofs.YtjphmebhofkhcaaDoorPl Go.Proofs.YtjphmebhofkhcaaDoorW.PrintWords Go.Proofs.YtjphmebhofkhcaaDoorW.PrintLast Go.Proofs.YtjphmebhofkhcaaDoorW.PrintMore Go.Proofs.YtjphmebhofkhcaaDoor.Rope Go.Proofs.YtjphmebhofkhcaaDoor.PSegAll Go.Proofs.YtjphmebhofkhcaaDoor.Pure
set_option linter.unusedVariables false
set_option linter.unusedSimpArgs false
def twG (i : Int) (x : G) : G := ⟨i, x.f1, x.f2, [], []⟩
theorem twG_sp {w : World} {x : G} {p A : Option Addr} {c : Nat} {B : Option Addr} {d : Nat} (h : SP w x p A c B d) (i : Int) : SP w (twG i x) p none 0 none 0 := ⟨⟨⟨Nat.le_refl _, Nat.le_refl _, Kd.C_nil _ _, Kd.C_nil _ _⟩, fun _ e => (by cases e), fun _ e => (by cases e)⟩, h.rp⟩
set_option maxRecDepth 100000 in
set_option maxHeartbeats 1600000 in
theorem twin_calls (x : G) (p A : Option Addr) (c : Nat) (B : Option Addr) (d : Nat) (i : Int) (w : World) :
  Calls Tryd.prog 27 #[.agg (sgC x p A c B d), .int .i64 i] w fun e w' => e = .returned (.agg (sgC (twG i x) p none 0 none 0)) ∧ Below w.heap.size w w' := by
 go_enter Tryd.func27, Tryd.ntmps27
 go_wp2
 refine bodyPost_ret (results_cell_row rfl _ _ (w.heap.size + 1) 31 #[.int .i64 i, .int .i64 x.f1, .pointer p, .slice none 0 0, .slice none 0 0] (0, 0) _ rfl (blk_newS (by simp)) Tryd.underlying31 rfl (by kernel_rfl)) rfl ?_
 exact ⟨rfl, below_alloc (below_alloc (Below.refl _ _) _) _⟩
/-- The cells of a segment's block, read from the walk's start on. -/
theorem Q5.at {w W : World} {k : Nat} {x : G} {p A : Option Addr} {c : Nat} {B : Option Addr} {d : Nat} (hb : Below w.heap.size w W) (h : W.heap[k]? = some (.cells (sgC x p A c B d) 31 (0, 0))) : Q5 w k x p A c B d W := ⟨(blk_cell h 0).trans rfl, (blk_cell h 1).trans rfl, (blk_cell h 2).trans rfl, (blk_cell h 3).trans rfl, (blk_cell h 4).trans rfl, hb⟩
/-- A box of a segment and a new one. -/
structure NZ (w : World) (x : G) (p A : Option Addr) (c : Nat) (B : Option Addr) (d : Nat) (W : World) : Prop where
 b : Below w.heap.size w W
 h4 : W.heap[w.heap.size]? = some (.cells (sgC x p A c B d) 31 (0, 0))
 h8 : W.heap[w.heap.size + 1]? = some (.cells zC 31 (0, 0))
theorem NZ.next {w W W' : World} {x : G} {p A : Option Addr} {c : Nat} {B : Option Addr} {d : Nat} (h : NZ w x p A c B d W) (hb : Below W.heap.size W W') : NZ w x p A c B d W' := ⟨below_step h.b hb, blk_below h.h4 hb, blk_below h.h8 hb⟩
theorem NZ.five {w W : World} {x : G} {p A : Option Addr} {c : Nat} {B : Option Addr} {d : Nat} (h : NZ w x p A c B d W) (y : G) (p' A' : Option Addr) (c' : Nat) (B' : Option Addr) (d' : Nat) : Below w.heap.size w (lay5 W (w.heap.size + 1) y p' A' c' B' d') ∧ (lay5 W (w.heap.size + 1) y p' A' c' B' d').heap[w.heap.size]? = some (.cells (sgC x p A c B d) 31 (0, 0)) := ⟨lay5_below h.b (by omega), (lay5_far (by omega)).trans h.h4⟩
noncomputable def pieG (x : G) (a b i : Int) : G := ⟨i, x.f1, cutT x.f2 a b, [], []⟩
set_option maxRecDepth 1000000 in
set_option maxHeartbeats 8000000 in
theorem piece_calls (x : G) (p A : Option Addr) (c : Nat) (B : Option Addr) (d : Nat) (at_ n i : Int) (w : World) (h : SP w x p A c B d) (hz : x.f2.size ≤ 1099511627776) {a b : Int} (ha : a = clampI (cnt x.f2) at_) (hb_ : b = a + lenI (cnt x.f2) a n) :
  Calls Tryd.prog 25 #[.agg (sgC x p A c B d), .int .i64 at_, .int .i64 n, .int .i64 i] w fun e w' => ∃ p1, e = .returned (.agg (sgC (pieG x a b i) p1 none 0 none 0)) ∧ SP w' (pieG x a b i) p1 none 0 none 0 ∧ Below w.heap.size w w' := by
 have HAB := Lib.hid (And.intro ha hb_)
 have HS := Lib.hid h
 clear h ha hb_
 go_enter Tryd.func25, Tryd.ntmps25
 go_upto_region 1 with fail
 refine gen2 (φ := fun W => Code.wp _ _ _ _ W) (P := fun W => NZ w x p A c B d W) ⟨below_alloc (below_alloc (Below.refl _ _) _) _, blk_alloc (blk_new w _) _, blk_newS (by simp)⟩ ?_
 rintro V hV
 have ZV := Lib.hid hV
 have x0 := (blk_cell hV.h4 0).trans rfl
 have x1 := (blk_cell hV.h4 1).trans rfl
 have x2 := (blk_cell hV.h4 2).trans rfl
 have x3 := (blk_cell hV.h4 3).trans rfl
 have x4 := (blk_cell hV.h4 4).trans rfl
 clear hV
 go_upto_region 2 with (go_at_call 51; refine (places_calls x p A c B d at_ n _ (HS.out.rp.below ZV.out.b) hz).mono ?_; rw [← HAB.out.1, ← HAB.out.2]; rintro e w1 ⟨rfl, hb1⟩; have Z1 := Lib.hid (ZV.out.next hb1); clear hb1)
 clear x0 x1 x2 x3 x4
 have ZD := Lib.hid (show NZ w x p A c B d w1.drew from Z1.out.next (by with_reducible repeat (first | exact Below.refl _ _ | apply pw_below_drewN | apply Below.drew)))
 refine wp_region_noPanic ?_
 refine wp_region_held_drew (S := (fun w' => Q5 w w.heap.size x p A c B d w')) ?hm_r ?hS_r (fun hHeld => ?_)
 case hm_r => kernel_rfl
 case hS_r => exact Q5.at ZD.out.b ZD.out.h4
 refine wpAnyH_take (i := 0) (oi := ?or0) (v := ?vr0) ?hi_r0 ?k1_r0 ?k2_r0 ?k3_r0 (fun _ _ _ h => h) (Or.inl ⟨?g_r0, ?y_r0⟩) (by assumption) ?r_r0
 case hi_r0 => (simp only [List.getElem?_toArray, List.getElem?_cons_succ, List.getElem?_cons_zero]; rfl)
 case k1_r0 => kernel_rfl
 case k2_r0 => kernel_rfl
 case k3_r0 => kernel_rfl
 case g_r0 => rfl
 case y_r0 => (intro w hSw; (try dsimp only at hSw); first | (go_simp; done) | (go_simp; with_reducible rfl))
 (try simp only [Act.put, List.setIfInBounds_toArray, List.set_cons_zero, List.set_cons_succ])
 refine wpAnyH_take (i := 1) (oi := ?or1) (v := ?vr1) ?hi_r1 ?k1_r1 ?k2_r1 ?k3_r1 (fun _ _ _ h => h) (Or.inl ⟨?g_r1, ?y_r1⟩) (by assumption) ?r_r1
 case hi_r1 => (simp only [List.getElem?_toArray, List.getElem?_cons_succ, List.getElem?_cons_zero]; rfl)
 case k1_r1 => kernel_rfl
 case k2_r1 => kernel_rfl
 case k3_r1 => kernel_rfl
 case g_r1 => rfl
 case y_r1 => (intro w hSw; (try dsimp only at hSw); first | (go_simp; done) | (go_simp; with_reducible rfl))
 (try simp only [Act.put, List.setIfInBounds_toArray, List.set_cons_zero, List.set_cons_succ])
 refine wpAnyH_take (i := 2) (oi := ?or2) (v := ?vr2) ?hi_r2 ?k1_r2 ?k2_r2 ?k3_r2 (fun _ _ _ h => h) (Or.inl ⟨?g_r2, ?y_r2⟩) (by assumption) ?r_r2
 case hi_r2 => (simp only [List.getElem?_toArray, List.getElem?_cons_succ, List.getElem?_cons_zero]; rfl)
 case k1_r2 => kernel_rfl
 case k2_r2 => kernel_rfl
 case k3_r2 => kernel_rfl
 case g_r2 => rfl
 case y_r2 => (intro w hSw; (try dsimp only at hSw); first | (go_simp; done) | (go_simp; with_reducible rfl))
 (try simp only [Act.put, List.setIfInBounds_toArray, List.set_cons_zero, List.set_cons_succ])
 refine wpAnyH_take (i := 3) (oi := ?or3) (v := ?vr3) ?hi_r3 ?k1_r3 ?k2_r3 ?k3_r3 (fun _ _ _ h => h) (Or.inl ⟨?g_r3, ?y_r3⟩) (by assumption) ?r_r3
 case hi_r3 => (simp only [List.getElem?_toArray, List.getElem?_cons_succ, List.getElem?_cons_zero]; rfl)
 case k1_r3 => kernel_rfl
 case k2_r3 => kernel_rfl
 case k3_r3 => kernel_rfl
 case g_r3 => rfl
 case y_r3 => (intro w hSw; (try dsimp only at hSw); first | (go_simp; done) | (go_simp; with_reducible rfl))
 (try simp only [Act.put, List.setIfInBounds_toArray, List.set_cons_zero, List.set_cons_succ])
 refine wpAnyH_take (i := 4) (oi := ?or4) (v := ?vr4) ?hi_r4 ?k1_r4 ?k2_r4 ?k3_r4 (fun _ _ _ h => h) (Or.inl ⟨?g_r4, ?y_r4⟩) (by assumption) ?r_r4
 case hi_r4 => (simp only [List.getElem?_toArray, List.getElem?_cons_succ, List.getElem?_cons_zero]; rfl)
 case k1_r4 => kernel_rfl
 case k2_r4 => kernel_rfl
 case k3_r4 => kernel_rfl
 case g_r4 => rfl
 case y_r4 => (intro w hSw; (try dsimp only at hSw); first | (go_simp; done) | (go_simp; with_reducible rfl))
 (try simp only [Act.put, List.setIfInBounds_toArray, List.set_cons_zero, List.set_cons_succ])
 refine wpAnyH_take (i := 5) (oi := ?or5) (v := ?vr5) ?hi_r5 ?k1_r5 ?k2_r5 ?k3_r5 (fun _ _ _ h => h) (Or.inl ⟨?g_r5, ?y_r5⟩) (by assumption) ?r_r5
 case hi_r5 => (simp only [List.getElem?_toArray, List.getElem?_cons_succ, List.getElem?_cons_zero]; rfl)
 case k1_r5 => kernel_rfl
 case k2_r5 => kernel_rfl
 case k3_r5 => kernel_rfl
 case g_r5 => rfl
 case y_r5 => (intro w hSw; (try dsimp only at hSw); first | (go_simp; done) | (go_simp; with_reducible rfl))
 (try simp only [Act.put, List.setIfInBounds_toArray, List.set_cons_zero, List.set_cons_succ])
 refine wpAnyH_take (i := 6) (oi := ?or6) (v := ?vr6) ?hi_r6 ?k1_r6 ?k2_r6 ?k3_r6 (fun _ _ _ h => h) (Or.inl ⟨?g_r6, ?y_r6⟩) (by assumption) ?r_r6
 case hi_r6 => (simp only [List.getElem?_toArray, List.getElem?_cons_succ, List.getElem?_cons_zero]; rfl)
 case k1_r6 => kernel_rfl
 case k2_r6 => kernel_rfl
 case k3_r6 => kernel_rfl
 case g_r6 => rfl
 case y_r6 => (intro w hSw; (try dsimp only at hSw); first | (go_simp; done) | (go_simp; with_reducible rfl))
 (try simp only [Act.put, List.setIfInBounds_toArray, List.set_cons_zero, List.set_cons_succ])
 refine wpAnyH_ready (rs := [7]) ?k1_r7 (by simp) ?r_r7
 case k1_r7 => kernel_rfl
 refine AllReadyH.cons (o := ?or7) ?hi_r7 (fun K hK => ?s_r7) ?m_r7
 case hi_r7 => (simp only [List.getElem?_toArray, List.getElem?_cons_succ, List.getElem?_cons_zero]; rfl)
 case m_r7 => exact AllReadyH.nil
 go_simp
 (go_at_call 53; (refine (cut_rp a b (HS.out.rp.below ZD.out.b)).mono ?_); rintro e w7 ⟨r7, rfl, hr, hb⟩; have R7 := Lib.hid hr; have Z7 := Lib.hid (ZD.out.next hb); have q0 := (blk_cell Z7.out.h8 0).trans rfl; have z0 := blk_frozen Z7.out.h8 0; have q1 := (blk_cell Z7.out.h8 1).trans rfl; have z1 := blk_frozen Z7.out.h8 1; have q2 := (blk_cell Z7.out.h8 2).trans rfl; have z2 := blk_frozen Z7.out.h8 2; have q3 := (blk_cell Z7.out.h8 3).trans rfl; have z3 := blk_frozen Z7.out.h8 3; have q4 := (blk_cell Z7.out.h8 4).trans rfl; have z4 := blk_frozen Z7.out.h8 4; clear hr hb)
 (try go_wp2_with fail)
 refine hK.out _ _ (Q5.at Z7.out.b Z7.out.h4) (fun hHeld => ?_)
 clear hK K
 (try simp only [Act.put, List.setIfInBounds_toArray, List.set_cons_zero, List.set_cons_succ])
 refine wpAnyH_take (i := 8) (oi := ?or8) (v := ?vr8) ?hi_r8 ?k1_r8 ?k2_r8 ?k3_r8 (fun _ _ _ h => h) (Or.inl ⟨?g_r8, ?y_r8⟩) (by assumption) ?r_r8
 case hi_r8 => (simp only [List.getElem?_toArray, List.getElem?_cons_succ, List.getElem?_cons_zero]; rfl)
 case k1_r8 => kernel_rfl
 case k2_r8 => kernel_rfl
 case k3_r8 => kernel_rfl
 case g_r8 => rfl
 case y_r8 => (intro w hSw; (try dsimp only at hSw); first | (go_simp; done) | (go_simp; with_reducible rfl))
 (try simp only [Act.put, List.setIfInBounds_toArray, List.set_cons_zero, List.set_cons_succ])
 refine wpAnyH_ready (rs := [9]) ?k1_r9 (by simp) ?r_r9
 case k1_r9 => kernel_rfl
 refine AllReadyH.cons (o := ?or9) ?hi_r9 (fun K hK => ?s_r9) ?m_r9
 case hi_r9 => (simp only [List.getElem?_toArray, List.getElem?_cons_succ, List.getElem?_cons_zero]; rfl)
 case m_r9 => exact AllReadyH.nil
 go_simp
 refine hK.out _ _ (Q5.at (Z7.out.five (pieG x a b i) r7 none 0 none 0).1 (Z7.out.five (pieG x a b i) r7 none 0 none 0).2) (fun hHeld => ?_)
 clear hK K
 (try simp only [Act.put, List.setIfInBounds_toArray, List.set_cons_zero, List.set_cons_succ])
 refine wpAnyH_done (by kernel_rfl) ?_ _
 refine NoPanic.normal ?_
 have s7 : SP w7 (pieG x a b i) r7 none 0 none 0 := ⟨⟨⟨Nat.le_refl _, Nat.le_refl _, Kd.C_nil _ _, Kd.C_nil _ _⟩, fun _ e => (by cases e), fun _ e => (by cases e)⟩, R7.out⟩
 have L := lay5_sp (y := pieG x a b i) (p := r7) (A := none) (c := 0) (B := none) (d := 0) s7 Z7.out.h8
 refine gen2 (φ := fun W => Exit.then _ _ Exit.normal _ W) (P := fun W => SP W (pieG x a b i) r7 none 0 none 0 ∧ W.heap[w.heap.size + 1]? = some (.cells (sgC (pieG x a b i) r7 none 0 none 0) 31 (0, 0)) ∧ Below w.heap.size w W) ⟨L.1, L.2, (Z7.out.five (pieG x a b i) r7 none 0 none 0).1⟩ ?_
 rintro W ⟨s1, g1, hb⟩
 go_wp2
 refine bodyPost_ret (results_cell_row rfl _ _ (w.heap.size + 1) 31 (sgC (pieG x a b i) r7 none 0 none 0) (0, 0) _ rfl g1 Tryd.underlying31 rfl (by kernel_rfl)) rfl ?_
 exact ⟨r7, rfl, s1, hb⟩
end Go.Proofs.YtjphmebhofkhcaaDoor.Seg
/- Segments: the walk of the reference's Part and Piece. Conditions: right segments of at most 2000 bytes. -/
namespace Go.Proofs.YtjphmebhofkhcaaDoor.Seg
open Go.RowKit Go.Proofs.YtjphmebhofkhcaaDoorPl Go.Proofs.YtjphmebhofkhcaaDoorW.PrintWords Go.Proofs.YtjphmebhofkhcaaDoorW.PrintLast Go.Proofs.YtjphmebhofkhcaaDoorW.PrintMore Go.Proofs.YtjphmebhofkhcaaDoor.Rope Go.Proofs.YtjphmebhofkhcaaDoor.PSegAll Go.Proofs.YtjphmebhofkhcaaDoor.Pure
set_option linter.unusedVariables false
set_option linter.unusedSimpArgs false
theorem refPart4_calls (A : Option Addr) (c : Nat) (xs : List S67) (B : Option Addr) (d : Nat) (ys : List S70) (n a : Int) (w : World) (h : TR w (mG xs ys) A c B d) (N P : Nat) (en : n = (N : Int)) (ea : a = (P : Int)) (hN : N ≤ 2000) (hP : P ≤ N) (hok : rightB n xs ys = true) (hx : xs.length ≤ 1099511627776) (hy : ys.length ≤ 1099511627776) :
  Calls Tryd.prog 55 #[.agg #[.slice A xs.length c, .slice B ys.length d], .int .i64 n, .int .i64 a] w fun e w' => ∃ A1 c1 B1 d1 A2 c2 B2 d2, e = .returned (.tuple #[.agg #[.slice A1 (partA a xs).length c1, .slice B1 (sitesA a ys).length d1], .agg #[.slice A2 (partB a xs).length c2, .slice B2 (sitesB a ys).length d2]]) ∧ TR w' (mG (partA a xs) (sitesA a ys)) A1 c1 B1 d1 ∧ TR w' (mG (partB a xs) (sitesB a ys)) A2 c2 B2 d2 ∧ Below w.heap.size w w' := by
 subst en ea
 refine (Mk.refPart_calls A c xs B d ys N P w h.r3 h.c3 h.r4 h.c4 hx hy hN hP hok).mono ?_
 rintro e w' ⟨A1, c1, B1, d1, A2, c2, B2, d2, rfl, r1, s1, r2, s2, hb⟩
 exact ⟨A1, c1, B1, d1, A2, c2, B2, d2, rfl, TR.of (x := mG _ _) r1 s1, TR.of (x := mG _ _) r2 s2, hb⟩
theorem refPart4_calls' (A : Option Addr) (c : Nat) (xs : List S67) (B : Option Addr) (d : Nat) (ys : List S70) (n a : Int) (w : World) {x : G} (h : GR w ⟨x.f0, x.f1, x.f2, xs, ys⟩ A c B d) (N P : Nat) (en : n = (N : Int)) (ea : a = (P : Int)) (hN : N ≤ 2000) (hP : P ≤ N) (hok : rightB n xs ys = true) (hx : xs.length ≤ 1099511627776) (hy : ys.length ≤ 1099511627776) :
  Calls Tryd.prog 55 #[.agg #[.slice A xs.length c, .slice B ys.length d], .int .i64 n, .int .i64 a] w fun e w' => ∃ A1 c1 B1 d1 A2 c2 B2 d2, e = .returned (.tuple #[.agg #[.slice A1 (partA a xs).length c1, .slice B1 (sitesA a ys).length d1], .agg #[.slice A2 (partB a xs).length c2, .slice B2 (sitesB a ys).length d2]]) ∧ TR w' (mG (partA a xs) (sitesA a ys)) A1 c1 B1 d1 ∧ TR w' (mG (partB a xs) (sitesB a ys)) A2 c2 B2 d2 ∧ Below w.heap.size w w' := by
 subst en ea
 refine (Mk.refPart_calls A c xs B d ys N P w h.r3 h.c3 h.r4 h.c4 hx hy hN hP hok).mono ?_
 rintro e w' ⟨A1, c1, B1, d1, A2, c2, B2, d2, rfl, r1, s1, r2, s2, hb⟩
 exact ⟨A1, c1, B1, d1, A2, c2, B2, d2, rfl, TR.of (x := mG _ _) r1 s1, TR.of (x := mG _ _) r2 s2, hb⟩
/-- A box of a plain segment and three new ones. -/
structure RP (w : World) (x : G) (A : Option Addr) (c : Nat) (B : Option Addr) (d : Nat) (W : World) : Prop where
 b : Below w.heap.size w W
 h6 : W.heap[w.heap.size]? = some (.cells (gC x A c B d) 25 (0, 0))
 h12 : W.heap[w.heap.size + 1]? = some (.cells zP 25 (0, 0))
 h13 : W.heap[w.heap.size + 1 + 1]? = some (.cells zP 25 (0, 0))
 h14 : W.heap[w.heap.size + 1 + 1 + 1]? = some (.cells zP 25 (0, 0))
theorem RP.next {w W W' : World} {x : G} {A : Option Addr} {c : Nat} {B : Option Addr} {d : Nat} (h : RP w x A c B d W) (hb : Below W.heap.size W W') : RP w x A c B d W' := ⟨below_step h.b hb, blk_below h.h6 hb, blk_below h.h12 hb, blk_below h.h13 hb, blk_below h.h14 hb⟩
theorem RP.mk4 {w : World} {x : G} {A : Option Addr} {c : Nat} {B : Option Addr} {d : Nat} : RP w x A c B d ((((w.alloc (.cells (gC x A c B d) 25 (0, 0))).alloc (.cells zP 25 (0, 0))).alloc (.cells zP 25 (0, 0))).alloc (.cells zP 25 (0, 0))) :=
 ⟨below_alloc (below_alloc (below_alloc (below_alloc (Below.refl _ _) _) _) _) _, blk_below (blk_new w _) (below_alloc (below_alloc (below_alloc (Below.refl _ _) _) _) _), blk_below (blk_newS (by simp)) (below_alloc (below_alloc (Below.refl _ _) _) _), blk_below (blk_newS (by simp)) (below_alloc (Below.refl _ _) _), blk_newS (by simp)⟩
/-- What a region's loads read: the segment and one pair of marks. -/
abbrev QP (V : World) (g : Nat) (x : G) (A : Option Addr) (c : Nat) (B : Option Addr) (d : Nat) (gM : Nat) (v0 v1 : Value) (w' : World) : Prop := w'.cell? ⟨gM, 0, none⟩ = some v0 ∧ w'.cell? ⟨gM, 1, none⟩ = some v1 ∧ Q V g x A c B d w'
theorem QP.next {V W W' : World} {g : Nat} {x : G} {A : Option Addr} {c : Nat} {B : Option Addr} {d : Nat} {gM : Nat} {v0 v1 : Value} (h : QP V g x A c B d gM v0 v1 W) (hb : Below W.heap.size W W') : QP V g x A c B d gM v0 v1 W' := ⟨pw_cell_below hb h.1, pw_cell_below hb h.2.1, Q.next h.2.2 hb⟩
theorem QP.b {V W : World} {g : Nat} {x : G} {A : Option Addr} {c : Nat} {B : Option Addr} {d : Nat} {gM : Nat} {v0 v1 : Value} (h : QP V g x A c B d gM v0 v1 W) : Below V.heap.size V W := Q.b h.2.2
theorem QP.of {V W : World} {g : Nat} {x : G} {A : Option Addr} {c : Nat} {B : Option Addr} {d : Nat} {gM : Nat} {v0 v1 : Value} (h : V.heap[g]? = some (.cells (gC x A c B d) 25 (0, 0))) (h2 : V.heap[gM]? = some (.cells #[v0, v1] 74 (0, 0))) (hb : Below V.heap.size V W) : QP V g x A c B d gM v0 v1 W := ⟨(blk_cell (blk_below h2 hb) 0).trans rfl, (blk_cell (blk_below h2 hb) 1).trans rfl, Q.of h hb⟩
/-- .. and with two pairs of marks. -/
structure K4 (w : World) (x : G) (A : Option Addr) (c : Nat) (B : Option Addr) (d : Nat) (gA gZ : Nat) (pa : List S67) (oa : List S70) (A1 : Option Addr) (c1 : Nat) (B1 : Option Addr) (d1 : Nat) (pz : List S67) (oz : List S70) (A3 : Option Addr) (c3 : Nat) (B3 : Option Addr) (d3 : Nat) (W : World) : Prop extends RP w x A c B d W where
 hA : W.heap[gA]? = some (.cells #[.slice A1 pa.length c1, .slice B1 oa.length d1] 74 (0, 0))
 hZ : W.heap[gZ]? = some (.cells #[.slice A3 pz.length c3, .slice B3 oz.length d3] 74 (0, 0))
 tA : TR W (mG pa oa) A1 c1 B1 d1
 tZ : TR W (mG pz oz) A3 c3 B3 d3
section
variable {w W W' V : World} {x : G} {A : Option Addr} {c : Nat} {B : Option Addr} {d : Nat} {gA gZ : Nat} {pa : List S67} {oa : List S70} {A1 : Option Addr} {c1 : Nat} {B1 : Option Addr} {d1 : Nat} {pz : List S67} {oz : List S70} {A3 : Option Addr} {c3 : Nat} {B3 : Option Addr} {d3 : Nat}
theorem K4.next (h : K4 w x A c B d gA gZ pa oa A1 c1 B1 d1 pz oz A3 c3 B3 d3 W) (hb : Below W.heap.size W W') : K4 w x A c B d gA gZ pa oa A1 c1 B1 d1 pz oz A3 c3 B3 d3 W' := ⟨h.toRP.next hb, blk_below h.hA hb, blk_below h.hZ hb, h.tA.below hb, h.tZ.below hb⟩
/-- A new plain segment behind all that. -/
structure SG (w : World) (g : Nat) (y : G) (A : Option Addr) (c : Nat) (B : Option Addr) (d : Nat) (W : World) : Prop where
 lo : w.heap.size + 1 + 1 + 1 < g
 h : W.heap[g]? = some (.cells (gC y A c B d) 25 (0, 0))
 t : TR W y A c B d
theorem SG.next {g : Nat} {y : G} (h : SG w g y A c B d W) (hb : Below W.heap.size W W') : SG w g y A c B d W' := ⟨h.lo, blk_below h.h hb, h.t.below hb⟩
theorem SG.far {g k : Nat} {y z : G} {A' : Option Addr} {c' : Nat} {B' : Option Addr} {d' : Nat} (h : SG w g y A c B d W) (hk : k ≤ w.heap.size + 1 + 1 + 1) (hg : W.heap[k]? = some (.cells zP 25 (0, 0))) : SG w g y A c B d (layP W k z A' c' B' d') := ⟨h.lo, (layP_far (by have := h.lo; omega)).trans h.h, layP_tr h.t hg⟩
/-- A plain segment that is laid behind a world. -/
theorem SG.lay {V1 : World} {g : Nat} {y : G} {A' : Option Addr} {c' : Nat} {B' : Option Addr} {d' : Nat} (hv : RP w x A' c' B' d' V) (h1 : Below V.heap.size V V1) (hg : V.heap.size ≤ g) (hx : V1.heap[g]? = some (.cells zP 25 (0, 0))) (ht : TR V1 y A c B d) : Below V.heap.size V (layP V1 g y A c B d) ∧ SG w g y A c B d (layP V1 g y A c B d) :=
 ⟨layP_below h1 hg, by have := blk_lt hv.h14; omega, layP_blk hx, layP_tr ht hx⟩
theorem SG.new {V1 : World} {y : G} {A' : Option Addr} {c' : Nat} {B' : Option Addr} {d' : Nat} (hv : RP w x A' c' B' d' V) (h1 : Below V.heap.size V V1) (ht : TR V1 y A c B d) : Below V.heap.size V (V1.alloc (.cells (gC y A c B d) 25 (0, 0))) ∧ SG w V1.heap.size y A c B d (V1.alloc (.cells (gC y A c B d) 25 (0, 0))) :=
 ⟨below_alloc h1 _, by have := blk_lt hv.h14; have := h1.size; omega, blk_newS rfl, ht.below (below_alloc (Below.refl _ _) _)⟩
end
/-- What the last loads read. -/
abbrev QL (w : World) (g1 : Nat) (y1 : G) (A1 : Option Addr) (c1 : Nat) (B1 : Option Addr) (d1 : Nat) (g2 : Nat) (y2 : G) (A2 : Option Addr) (c2 : Nat) (B2 : Option Addr) (d2 : Nat) (g3 : Nat) (y3 : G) (A3 : Option Addr) (c3 : Nat) (B3 : Option Addr) (d3 : Nat) (w' : World) : Prop := Q w g1 y1 A1 c1 B1 d1 w' ∧ Q w g2 y2 A2 c2 B2 d2 w' ∧ Q w g3 y3 A3 c3 B3 d3 w'
theorem Q.at {w W : World} {g : Nat} {x : G} {A : Option Addr} {c : Nat} {B : Option Addr} {d : Nat} (hb : Below w.heap.size w W) (h : W.heap[g]? = some (.cells (gC x A c B d) 25 (0, 0))) : Q w g x A c B d W := ⟨(blk_cell h 0).trans rfl, (blk_cell h 1).trans rfl, (blk_cell h 2).trans rfl, (blk_cell h 3).trans rfl, (blk_cell h 4).trans rfl, hb⟩
theorem QL.at {w W : World} {g1 : Nat} {y1 : G} {A1 : Option Addr} {c1 : Nat} {B1 : Option Addr} {d1 : Nat} {g2 : Nat} {y2 : G} {A2 : Option Addr} {c2 : Nat} {B2 : Option Addr} {d2 : Nat} {g3 : Nat} {y3 : G} {A3 : Option Addr} {c3 : Nat} {B3 : Option Addr} {d3 : Nat} (hb : Below w.heap.size w W) (h1 : SG w g1 y1 A1 c1 B1 d1 W) (h2 : SG w g2 y2 A2 c2 B2 d2 W) (h3 : SG w g3 y3 A3 c3 B3 d3 W) : QL w g1 y1 A1 c1 B1 d1 g2 y2 A2 c2 B2 d2 g3 y3 A3 c3 B3 d3 W := ⟨Q.at hb h1.h, Q.at hb h2.h, Q.at hb h3.h⟩
/-- Three plain segments, and three blocks for the answer. -/
structure SL (w : World) (g1 : Nat) (y1 : G) (A1 : Option Addr) (c1 : Nat) (B1 : Option Addr) (d1 : Nat) (g2 : Nat) (y2 : G) (A2 : Option Addr) (c2 : Nat) (B2 : Option Addr) (d2 : Nat) (g3 : Nat) (y3 : G) (A3 : Option Addr) (c3 : Nat) (B3 : Option Addr) (d3 : Nat) (z1 z2 z3 : Array Value) (W : World) : Prop where
 b : Below w.heap.size w W
 s1 : SG w g1 y1 A1 c1 B1 d1 W
 s2 : SG w g2 y2 A2 c2 B2 d2 W
 s3 : SG w g3 y3 A3 c3 B3 d3 W
 h12 : W.heap[w.heap.size + 1]? = some (.cells z1 25 (0, 0))
 h13 : W.heap[w.heap.size + 1 + 1]? = some (.cells z2 25 (0, 0))
 h14 : W.heap[w.heap.size + 1 + 1 + 1]? = some (.cells z3 25 (0, 0))
section
variable {w W : World} {g1 : Nat} {y1 : G} {A1 : Option Addr} {c1 : Nat} {B1 : Option Addr} {d1 : Nat} {g2 : Nat} {y2 : G} {A2 : Option Addr} {c2 : Nat} {B2 : Option Addr} {d2 : Nat} {g3 : Nat} {y3 : G} {A3 : Option Addr} {c3 : Nat} {B3 : Option Addr} {d3 : Nat}
theorem SL.one {z2 z3 : Array Value} (h : SL w g1 y1 A1 c1 B1 d1 g2 y2 A2 c2 B2 d2 g3 y3 A3 c3 B3 d3 zP z2 z3 W) (y : G) (A : Option Addr) (c : Nat) (B : Option Addr) (d : Nat) : SL w g1 y1 A1 c1 B1 d1 g2 y2 A2 c2 B2 d2 g3 y3 A3 c3 B3 d3 (gC y A c B d) z2 z3 (layP W (w.heap.size + 1) y A c B d) :=
 ⟨layP_below h.b (by omega), h.s1.far (by omega) h.h12, h.s2.far (by omega) h.h12, h.s3.far (by omega) h.h12, layP_blk h.h12, (layP_far (by omega)).trans h.h13, (layP_far (by omega)).trans h.h14⟩
theorem SL.two {z1 z3 : Array Value} (h : SL w g1 y1 A1 c1 B1 d1 g2 y2 A2 c2 B2 d2 g3 y3 A3 c3 B3 d3 z1 zP z3 W) (y : G) (A : Option Addr) (c : Nat) (B : Option Addr) (d : Nat) : SL w g1 y1 A1 c1 B1 d1 g2 y2 A2 c2 B2 d2 g3 y3 A3 c3 B3 d3 z1 (gC y A c B d) z3 (layP W (w.heap.size + 1 + 1) y A c B d) :=
 ⟨layP_below h.b (by omega), h.s1.far (by omega) h.h13, h.s2.far (by omega) h.h13, h.s3.far (by omega) h.h13, (layP_far (by omega)).trans h.h12, layP_blk h.h13, (layP_far (by omega)).trans h.h14⟩
theorem SL.three {z1 z2 : Array Value} (h : SL w g1 y1 A1 c1 B1 d1 g2 y2 A2 c2 B2 d2 g3 y3 A3 c3 B3 d3 z1 z2 zP W) (y : G) (A : Option Addr) (c : Nat) (B : Option Addr) (d : Nat) : SL w g1 y1 A1 c1 B1 d1 g2 y2 A2 c2 B2 d2 g3 y3 A3 c3 B3 d3 z1 z2 (gC y A c B d) (layP W (w.heap.size + 1 + 1 + 1) y A c B d) :=
 ⟨layP_below h.b (by omega), h.s1.far (by omega) h.h14, h.s2.far (by omega) h.h14, h.s3.far (by omega) h.h14, (layP_far (by omega)).trans h.h12, (layP_far (by omega)).trans h.h13, layP_blk h.h14⟩
theorem SL.drew {z1 z2 z3 : Array Value} (h : SL w g1 y1 A1 c1 B1 d1 g2 y2 A2 c2 B2 d2 g3 y3 A3 c3 B3 d3 z1 z2 z3 W) : SL w g1 y1 A1 c1 B1 d1 g2 y2 A2 c2 B2 d2 g3 y3 A3 c3 B3 d3 z1 z2 z3 W.drew :=
 have hb : Below W.heap.size W W.drew := Below.drew (Below.refl _ _)
 ⟨below_step h.b hb, h.s1.next hb, h.s2.next hb, h.s3.next hb, blk_below h.h12 hb, blk_below h.h13 hb, blk_below h.h14 hb⟩
theorem SL.ql {z1 z2 z3 : Array Value} (h : SL w g1 y1 A1 c1 B1 d1 g2 y2 A2 c2 B2 d2 g3 y3 A3 c3 B3 d3 z1 z2 z3 W) : QL w g1 y1 A1 c1 B1 d1 g2 y2 A2 c2 B2 d2 g3 y3 A3 c3 B3 d3 W := QL.at h.b h.s1 h.s2 h.s3
end
/-- Ways that meet again. -/
theorem meet {G φ : Prop} (h : Hid G → φ) (r : G) : φ := h (Lib.hid r)
set_option maxRecDepth 1000000 in
set_option maxHeartbeats 16000000 in
theorem refPart5_calls (x : G) (A : Option Addr) (c : Nat) (B : Option Addr) (d : Nat) (at_ n mi la lb : Int) (w : World) (hr : GR w x A c B d) (hk : okB x = true) (hz : x.f2.size ≤ 2000) (h3 : x.f3.length ≤ 1099511627776) (h4 : x.f4.length ≤ 1099511627776) {a b : Int} (ha : a = clampI (cnt x.f2) at_) (hb_ : b = a + lenI (cnt x.f2) a n) :
  Calls Tryd.prog 24 #[.agg (gC x A c B d), .int .i64 at_, .int .i64 n, .int .i64 mi, .int .i64 la, .int .i64 lb] w fun e w' => ∃ A1 c1 B1 d1 A3 c3 B3 d3, e = .returned (.tuple #[.agg (gC (pt1 x a) A1 c1 B1 d1), .agg (gC (pt2 x a b mi lb) none 0 none 0), .agg (gC (pt3 x a b la) A3 c3 B3 d3)]) ∧ GR w' (pt1 x a) A1 c1 B1 d1 ∧ GR w' (pt2 x a b mi lb) none 0 none 0 ∧ GR w' (pt3 x a b la) A3 c3 B3 d3 ∧ Below w.heap.size w w' := by
 obtain ⟨hv, hrt⟩ := okB_true hk
 have hin := cnt_in hv (by omega)
 have hcl := clamp_in (a := at_) hin.1
 rw [← ha] at hcl
 have hln := len_in (n := n) hcl.2
 obtain ⟨m, hm⟩ : ∃ m, m = cnt x.f2 := ⟨_, rfl⟩
 rw [← hm] at hin hcl hln hrt hb_
 have w1_ : IntKind.i64.wrap (m - a) = m - a := IntWalk.i64_in _ (by omega)
 have w2_ : IntKind.i64.wrap (b - a) = b - a := IntWalk.i64_in _ (by omega)
 have HB2 := Lib.hid (show rightB (m - a) (partB a x.f3) (sitesB a x.f4) = true from Mk.right_iff.2 ⟨(partB_ok (Mk.right_iff.1 hrt).1 hcl.1 hcl.2 (by omega)).1, Mk.sitesB_pw (Mk.right_iff.1 hrt).2 hcl.1 (by omega)⟩)
 have HPB := Lib.hid (And.intro (partB_length a x.f3) (sitesB_length a x.f4))
 have HAB := Lib.hid (And.intro ha hb_)
 have HM := Lib.hid hm
 have HV := Lib.hid (And.intro hv hrt)
 have HI := Lib.hid (show 0 ≤ a ∧ a ≤ b ∧ b ≤ m ∧ m ≤ 2000 by omega)
 have HR := Lib.hid hr
 have HL := Lib.hid (And.intro h3 h4)
 obtain ⟨N, hN⟩ := Int.eq_ofNat_of_zero_le (show 0 ≤ m by omega)
 obtain ⟨P, hP⟩ := Int.eq_ofNat_of_zero_le (show 0 ≤ a by omega)
 obtain ⟨N2, hN2⟩ := Int.eq_ofNat_of_zero_le (show 0 ≤ m - a by omega)
 obtain ⟨P2, hP2⟩ := Int.eq_ofNat_of_zero_le (show 0 ≤ b - a by omega)
 have HN := Lib.hid (And.intro (And.intro hN hP) (And.intro hN2 hP2))
 clear ha hb_ hm hv hrt hin hcl hln hr hN hP hN2 hP2 h3 h4 hk
 go_enter Tryd.func24, Tryd.ntmps24
 go_upto_region 1 with fail
 refine gen2 (φ := fun W => Code.wp _ _ _ _ W) (P := fun W => RP w x A c B d W) RP.mk4 ?_
 rintro V hV
 have ZV := Lib.hid hV
 have x0 := (blk_cell hV.h6 0).trans rfl
 have x1 := (blk_cell hV.h6 1).trans rfl
 have x2 := (blk_cell hV.h6 2).trans rfl
 have x3 := (blk_cell hV.h6 3).trans rfl
 have x4 := (blk_cell hV.h6 4).trans rfl
 clear hV
 go_upto_region 2 with (go_at_call 54; refine (rplaces5_calls x A c B d at_ n _ HV.out.1 (by omega) (a := a) (b := b) HAB.out.1 (by have := HAB.out.2; rw [HM.out] at this; exact this)).mono ?_; rintro e w1 ⟨rfl, hb1⟩; have Z1 := Lib.hid (ZV.out.next hb1); clear hb1)
 clear x0 x1 x2 x3 x4
 have x2 := (blk_cell Z1.out.h6 2).trans rfl
 go_upto_region 3 with (go_at_call 40; refine (count5_calls x.f2 _ HV.out.1 (by omega)).mono ?_; rw [← HM.out]; rintro e w2 ⟨rfl, hb1⟩; have Z2 := Lib.hid (Z1.out.next hb1); clear hb1)
 clear x2 Z1
 have x0 := (blk_cell Z2.out.h6 0).trans rfl
 have x1 := (blk_cell Z2.out.h6 1).trans rfl
 have x2 := (blk_cell Z2.out.h6 2).trans rfl
 have x3 := (blk_cell Z2.out.h6 3).trans rfl
 have x4 := (blk_cell Z2.out.h6 4).trans rfl
 go_upto_region 4 with (first | (go_at_call 39; (refine (marks5_calls x A c B d _).mono ?_); rintro e w3 ⟨rfl, hb1⟩; have Z3 := Lib.hid (Z2.out.next hb1); have T3 := Lib.hid (HR.out.below (Z2.out.next hb1).b); clear hb1) | (go_at_call 55; refine (refPart4_calls' A c x.f3 B d x.f4 m a _ T3.out N P HN.out.1.1 HN.out.1.2 (by have := HI.out; have := HN.out.1.1; omega) (by have := HI.out; have := HN.out.1.1; have := HN.out.1.2; omega) HV.out.2 HL.out.1 HL.out.2).mono ?_; rintro e w4 ⟨A1, c1, B1, d1, A2, c2, B2, d2, rfl, ht1, ht2, hb1⟩; have Z4 := Lib.hid (Z3.out.next hb1); have T1 := Lib.hid ht1; have T2 := Lib.hid ht2; clear hb1 ht1 ht2))
 refine gen2 (φ := fun W => Code.wp _ _ _ _ W) (P := fun W => RP w x A c B d W ∧ TR W (mG (partA a x.f3) (sitesA a x.f4)) A1 c1 B1 d1 ∧ TR W (mG (partB a x.f3) (sitesB a x.f4)) A2 c2 B2 d2 ∧ W.heap[w4.heap.size]? = some (.cells #[.slice A1 (partA a x.f3).length c1, .slice B1 (sitesA a x.f4).length d1] 74 (0, 0)) ∧ W.heap[w4.heap.size + 1]? = some (.cells #[.slice A2 (partB a x.f3).length c2, .slice B2 (sitesB a x.f4).length d2] 74 (0, 0)))
  ⟨Z4.out.next (below_alloc (below_alloc (Below.refl _ _) _) _), T1.out.below (below_alloc (below_alloc (Below.refl _ _) _) _), T2.out.below (below_alloc (below_alloc (Below.refl _ _) _) _), blk_below (blk_new w4 _) (below_alloc (Below.refl _ _) _), blk_newS (by simp)⟩ ?_
 rintro V3 ⟨hz3, ht1, ht2, h18, h19⟩
 have Z5 := Lib.hid hz3
 have TA := Lib.hid ht1
 have TB := Lib.hid ht2
 have X18 := Lib.hid h18
 have m0 := (blk_cell h19 0).trans rfl
 have m1 := (blk_cell h19 1).trans rfl
 clear hz3 ht1 ht2 h18 h19 Z2 Z3 Z4 T1 T2 T3 x0 x1 x2 x3 x4 ZV
 generalize w4.heap.size = g18 at *
 clear w4 w3 w2 w1 V
 generalize hxb : partB a x.f3 = xb at *
 generalize hyb : sitesB a x.f4 = yb at *
 have HXB := Lib.hid (And.intro hxb hyb)
 clear hxb hyb
 go_upto_region 5 with (go_at_call 55; refine (refPart4_calls A2 c2 xb B2 d2 yb (m - a) (b - a) _ TB.out N2 P2 HN.out.2.1 HN.out.2.2 (by have := HI.out; have := HN.out.2.1; omega) (by have := HI.out; have := HN.out.2.1; have := HN.out.2.2; omega) HB2.out (by have := HPB.out.1; have := HL.out; omega) (by have := HPB.out.2; have := HL.out; omega)).mono ?_; rintro e w2 ⟨A4, c4, B4, d4, A3, c3, B3, d3, rfl, ht1, ht2, hb2⟩; have Z6 := Lib.hid (Z5.out.next hb2); have T3 := Lib.hid ht2; have T1 := Lib.hid (TA.out.below hb2); have Y18 := Lib.hid (blk_below X18.out hb2); clear hb2 ht1 ht2)
 generalize hxz : partB (b - a) xb = xz at *
 generalize hyz : sitesB (b - a) yb = yz at *
 have HXZ := Lib.hid (And.intro hxz hyz)
 clear hxz hyz
 generalize hxa : partA a x.f3 = xa at *
 generalize hya : sitesA a x.f4 = ya at *
 have HXA := Lib.hid (And.intro hxa hya)
 clear hxa hya
 refine gen2 (φ := fun W => Code.wp _ _ _ _ W) (P := fun W => K4 w x A c B d g18 (w2.heap.size + 1) xa ya A1 c1 B1 d1 xz yz A3 c3 B3 d3 W)
  ⟨Z6.out.next (below_alloc (below_alloc (Below.refl _ _) _) _), blk_below Y18.out (below_alloc (below_alloc (Below.refl _ _) _) _), blk_newS (by simp), T1.out.below (below_alloc (below_alloc (Below.refl _ _) _) _), T3.out.below (below_alloc (below_alloc (Below.refl _ _) _) _)⟩ ?_
 rintro V hV
 have ZV := Lib.hid hV
 clear hV Z6 Z5 T3 T1 TA TB X18 Y18 m0 m1
 generalize w2.heap.size = g20 at *
 generalize g20 + 1 = g21 at *
 clear w2 V3
 have QVe := Lib.hid (show QP V w.heap.size x A c B d g18 (.slice A1 xa.length c1) (.slice B1 ya.length d1) V from QP.of ZV.out.h6 ZV.out.hA (Below.refl _ _))
 obtain ⟨cse, hcse⟩ : ∃ s, s = cutT x.f2 0 a := ⟨_, rfl⟩
 have HCe := Lib.hid hcse
 clear hcse
 refine meet (G := ?Ge) ?me ?ke
 case me =>
  intro key
  go_region_held3 (fun w' => QP V w.heap.size x A c B d g18 (.slice A1 xa.length c1) (.slice B1 ya.length d1) w')
   (first | (with_reducible assumption) | (with_reducible exact QP.of ZV.out.h6 ZV.out.hA (below_set (below_set (below_set (below_set (below_set (QP.b QWe.out) (Nat.le_refl _)) (Nat.le_refl _)) (Nat.le_refl _)) (Nat.le_refl _)) (Nat.le_refl _))) | (with_reducible exact QP.of ZV.out.h6 ZV.out.hA (below_set (below_set (below_set (below_set (below_set (QP.b QWe.out) ((QP.b QCe.out).size)) ((QP.b QCe.out).size)) ((QP.b QCe.out).size)) ((QP.b QCe.out).size)) ((QP.b QCe.out).size))) | (with_reducible exact QP.of ZV.out.h6 ZV.out.hA (below_set (below_set (below_set (below_set (below_set (QP.b QWe.out) ((QP.b QWe.out).size)) ((QP.b QWe.out).size)) ((QP.b QWe.out).size)) ((QP.b QWe.out).size)) ((QP.b QWe.out).size))) | (with_reducible exact QP.next QWe.out (below_alloc (Below.refl _ _) _)) | (with_reducible exact QP.next QCe.out (below_alloc (Below.refl _ _) _)) | (with_reducible exact QWe.out) | (with_reducible exact QCe.out) | exact QP.next QVe.out (by (with_reducible repeat (first | exact Below.refl _ _ | apply pw_below_drewN | apply Below.drew | apply below_alloc))))
   (first
   | (go_at_call 56; (refine (rcut5_calls x.f2 0 a _ HV.out.1 (by omega)).mono ?_); rw [← HCe.out]; rintro e wce ⟨rfl, hbc⟩; (first | (have XM := Lib.hid (blk_below XM.out hbc)) | (have XM := Lib.hid (blk_below (blk_newS (w := V.drew) (g := V.heap.size) (o := .cells zP 25 (0, 0)) rfl) hbc)) | skip); have QCe := Lib.hid (QP.next (‹QP V w.heap.size x A c B d g18 (.slice A1 xa.length c1) (.slice B1 ya.length d1) _›) hbc); clear hbc)
   | (go_at_call 48; (refine (with5_calls ⟨x.f0, x.f1, cse, [], []⟩ none 0 none 0 xa ya A1 c1 B1 d1 _).mono ?_); rintro e wwe ⟨rfl, hbw⟩; (first | (have XM := Lib.hid (blk_below XM.out hbw)) | (have XM := Lib.hid (blk_below (blk_newS (w := wce) (g := wce.heap.size) (o := .cells zP 25 (0, 0)) rfl) hbw)) | skip); (first | (have q0 := (blk_cell XM.out 0).trans rfl; have z0 := blk_frozen XM.out 0; have q1 := (blk_cell XM.out 1).trans rfl; have z1 := blk_frozen XM.out 1; have q2 := (blk_cell XM.out 2).trans rfl; have z2 := blk_frozen XM.out 2; have q3 := (blk_cell XM.out 3).trans rfl; have z3 := blk_frozen XM.out 3; have q4 := (blk_cell XM.out 4).trans rfl; have z4 := blk_frozen XM.out 4) | skip); have QWe := Lib.hid (QP.next (‹QP V w.heap.size x A c B d g18 (.slice A1 xa.length c1) (.slice B1 ya.length d1) _›) hbw); clear hbw))
  ·have hI := SG.new (w := w) (y := ⟨x.f0, x.f1, cse, xa, ya⟩) ZV.out.toRP (QP.b QWe.out) (((ZV.out.tA).below (QP.b QWe.out)).with (x := ⟨x.f0, x.f1, cse, xa, ya⟩) rfl rfl)
   refine gen2 (φ := fun W => Exit.then _ _ Exit.normal _ W) (P := fun W => K4 w x A c B d g18 g21 xa ya A1 c1 B1 d1 xz yz A3 c3 B3 d3 W ∧ SG w (wwe.heap.size) ⟨x.f0, x.f1, cse, xa, ya⟩ A1 c1 B1 d1 W) ⟨ZV.out.next hI.1, hI.2⟩ ?_
   clear hI
   generalize wwe.heap.size = gNe
   revert gNe
   exact key.out
  ·have hI := SG.lay (w := w) (g := wce.heap.size) (y := ⟨x.f0, x.f1, cse, xa, ya⟩) ZV.out.toRP (QP.b QWe.out) ((QP.b QCe.out).size) XM.out (((ZV.out.tA).below (QP.b QWe.out)).with (x := ⟨x.f0, x.f1, cse, xa, ya⟩) rfl rfl)
   refine gen2 (φ := fun W => Exit.then _ _ Exit.normal _ W) (P := fun W => K4 w x A c B d g18 g21 xa ya A1 c1 B1 d1 xz yz A3 c3 B3 d3 W ∧ SG w (wce.heap.size) ⟨x.f0, x.f1, cse, xa, ya⟩ A1 c1 B1 d1 W) ⟨ZV.out.next hI.1, hI.2⟩ ?_
   clear hI
   generalize wce.heap.size = gNe
   revert gNe
   exact key.out
  ·have hI := SG.lay (w := w) (g := V.heap.size) (y := ⟨x.f0, x.f1, cse, xa, ya⟩) ZV.out.toRP (QP.b QWe.out) (Nat.le_refl _) XM.out (((ZV.out.tA).below (QP.b QWe.out)).with (x := ⟨x.f0, x.f1, cse, xa, ya⟩) rfl rfl)
   refine gen2 (φ := fun W => Exit.then _ _ Exit.normal _ W) (P := fun W => K4 w x A c B d g18 g21 xa ya A1 c1 B1 d1 xz yz A3 c3 B3 d3 W ∧ SG w (V.heap.size) ⟨x.f0, x.f1, cse, xa, ya⟩ A1 c1 B1 d1 W) ⟨ZV.out.next hI.1, hI.2⟩ ?_
   clear hI
   generalize V.heap.size = gNe
   revert gNe
   exact key.out
 intro gNe Ve hVe
 have Z6 := Lib.hid hVe.1
 have S1 := Lib.hid hVe.2
 clear hVe QVe
 have x2 := (blk_cell Z6.out.h6 2).trans rfl
 go_upto_region 7 with (go_at_call 56; (refine (rcut5_calls x.f2 a b _ HV.out.1 (by omega)).mono ?_); rintro e w7 ⟨rfl, hb⟩; have Z7 := Lib.hid (Z6.out.next hb); have S2 := Lib.hid (S1.out.next hb); clear hb)
 refine gen2 (φ := fun W => Code.wp _ _ _ _ W) (P := fun W => K4 w x A c B d g18 g21 xa ya A1 c1 B1 d1 xz yz A3 c3 B3 d3 W ∧ SG w gNe ⟨x.f0, x.f1, cse, xa, ya⟩ A1 c1 B1 d1 W ∧ SG w w7.heap.size (pt2 x a b mi lb) none 0 none 0 W) ⟨Z7.out.next (below_alloc (Below.refl _ _) _), S2.out.next (below_alloc (Below.refl _ _) _), (SG.new (y := pt2 x a b mi lb) Z7.out.toRP (Below.refl _ _) ((nG_sp 0 0 _).toTR.with (x := pt2 x a b mi lb) rfl rfl)).2⟩ ?_
 rintro V8 ⟨hz8, hs1, hs2⟩
 have Z8 := Lib.hid hz8
 have U1 := Lib.hid hs1
 have U2 := Lib.hid hs2
 clear hz8 hs1 hs2 Z7 S2 S1 x2 Z6
 generalize w7.heap.size = gT at *
 have QVf := Lib.hid (show QP V8 w.heap.size x A c B d g21 (.slice A3 xz.length c3) (.slice B3 yz.length d3) V8 from QP.of Z8.out.h6 Z8.out.hZ (Below.refl _ _))
 obtain ⟨csf, hcsf⟩ : ∃ s, s = cutT x.f2 b m := ⟨_, rfl⟩
 have HCf := Lib.hid hcsf
 clear hcsf
 refine meet (G := ?Gf) ?mf ?kf
 case mf =>
  intro key
  go_region_held3 (fun w' => QP V8 w.heap.size x A c B d g21 (.slice A3 xz.length c3) (.slice B3 yz.length d3) w')
   (first | (with_reducible assumption) | (with_reducible exact QP.of Z8.out.h6 Z8.out.hZ (below_set (below_set (below_set (below_set (below_set (QP.b QWf.out) (Nat.le_refl _)) (Nat.le_refl _)) (Nat.le_refl _)) (Nat.le_refl _)) (Nat.le_refl _))) | (with_reducible exact QP.of Z8.out.h6 Z8.out.hZ (below_set (below_set (below_set (below_set (below_set (QP.b QWf.out) ((QP.b QCf.out).size)) ((QP.b QCf.out).size)) ((QP.b QCf.out).size)) ((QP.b QCf.out).size)) ((QP.b QCf.out).size))) | (with_reducible exact QP.of Z8.out.h6 Z8.out.hZ (below_set (below_set (below_set (below_set (below_set (QP.b QWf.out) ((QP.b QWf.out).size)) ((QP.b QWf.out).size)) ((QP.b QWf.out).size)) ((QP.b QWf.out).size)) ((QP.b QWf.out).size))) | (with_reducible exact QP.next QWf.out (below_alloc (Below.refl _ _) _)) | (with_reducible exact QP.next QCf.out (below_alloc (Below.refl _ _) _)) | (with_reducible exact QWf.out) | (with_reducible exact QCf.out) | exact QP.next QVf.out (by (with_reducible repeat (first | exact Below.refl _ _ | apply pw_below_drewN | apply Below.drew | apply below_alloc))))
   (first
   | (go_at_call 56; (refine (rcut5_calls x.f2 b m _ HV.out.1 (by omega)).mono ?_); rw [← HCf.out]; rintro e wcf ⟨rfl, hbc⟩; (first | (have XM := Lib.hid (blk_below XM.out hbc)) | (have XM := Lib.hid (blk_below (blk_newS (w := V8.drew) (g := V8.heap.size) (o := .cells zP 25 (0, 0)) rfl) hbc)) | skip); have QCf := Lib.hid (QP.next (‹QP V8 w.heap.size x A c B d g21 (.slice A3 xz.length c3) (.slice B3 yz.length d3) _›) hbc); clear hbc)
   | (go_at_call 48; (refine (with5_calls ⟨la, x.f1, csf, [], []⟩ none 0 none 0 xz yz A3 c3 B3 d3 _).mono ?_); rintro e wwf ⟨rfl, hbw⟩; (first | (have XM := Lib.hid (blk_below XM.out hbw)) | (have XM := Lib.hid (blk_below (blk_newS (w := wcf) (g := wcf.heap.size) (o := .cells zP 25 (0, 0)) rfl) hbw)) | skip); (first | (have q0 := (blk_cell XM.out 0).trans rfl; have z0 := blk_frozen XM.out 0; have q1 := (blk_cell XM.out 1).trans rfl; have z1 := blk_frozen XM.out 1; have q2 := (blk_cell XM.out 2).trans rfl; have z2 := blk_frozen XM.out 2; have q3 := (blk_cell XM.out 3).trans rfl; have z3 := blk_frozen XM.out 3; have q4 := (blk_cell XM.out 4).trans rfl; have z4 := blk_frozen XM.out 4) | skip); have QWf := Lib.hid (QP.next (‹QP V8 w.heap.size x A c B d g21 (.slice A3 xz.length c3) (.slice B3 yz.length d3) _›) hbw); clear hbw))
  ·have hI := SG.new (w := w) (y := ⟨la, x.f1, csf, xz, yz⟩) Z8.out.toRP (QP.b QWf.out) (((Z8.out.tZ).below (QP.b QWf.out)).with (x := ⟨la, x.f1, csf, xz, yz⟩) rfl rfl)
   refine gen2 (φ := fun W => Exit.then _ _ Exit.normal _ W) (P := fun W => (RP w x A c B d W ∧ SG w gNe ⟨x.f0, x.f1, cse, xa, ya⟩ A1 c1 B1 d1 W ∧ SG w gT (pt2 x a b mi lb) none 0 none 0 W) ∧ SG w (wwf.heap.size) ⟨la, x.f1, csf, xz, yz⟩ A3 c3 B3 d3 W) ⟨⟨(Z8.out.next hI.1).toRP, U1.out.next hI.1, U2.out.next hI.1⟩, hI.2⟩ ?_
   clear hI
   generalize wwf.heap.size = gNf
   revert gNf
   exact key.out
  ·have hI := SG.lay (w := w) (g := wcf.heap.size) (y := ⟨la, x.f1, csf, xz, yz⟩) Z8.out.toRP (QP.b QWf.out) ((QP.b QCf.out).size) XM.out (((Z8.out.tZ).below (QP.b QWf.out)).with (x := ⟨la, x.f1, csf, xz, yz⟩) rfl rfl)
   refine gen2 (φ := fun W => Exit.then _ _ Exit.normal _ W) (P := fun W => (RP w x A c B d W ∧ SG w gNe ⟨x.f0, x.f1, cse, xa, ya⟩ A1 c1 B1 d1 W ∧ SG w gT (pt2 x a b mi lb) none 0 none 0 W) ∧ SG w (wcf.heap.size) ⟨la, x.f1, csf, xz, yz⟩ A3 c3 B3 d3 W) ⟨⟨(Z8.out.next hI.1).toRP, U1.out.next hI.1, U2.out.next hI.1⟩, hI.2⟩ ?_
   clear hI
   generalize wcf.heap.size = gNf
   revert gNf
   exact key.out
  ·have hI := SG.lay (w := w) (g := V8.heap.size) (y := ⟨la, x.f1, csf, xz, yz⟩) Z8.out.toRP (QP.b QWf.out) (Nat.le_refl _) XM.out (((Z8.out.tZ).below (QP.b QWf.out)).with (x := ⟨la, x.f1, csf, xz, yz⟩) rfl rfl)
   refine gen2 (φ := fun W => Exit.then _ _ Exit.normal _ W) (P := fun W => (RP w x A c B d W ∧ SG w gNe ⟨x.f0, x.f1, cse, xa, ya⟩ A1 c1 B1 d1 W ∧ SG w gT (pt2 x a b mi lb) none 0 none 0 W) ∧ SG w (V8.heap.size) ⟨la, x.f1, csf, xz, yz⟩ A3 c3 B3 d3 W) ⟨⟨(Z8.out.next hI.1).toRP, U1.out.next hI.1, U2.out.next hI.1⟩, hI.2⟩ ?_
   clear hI
   generalize V8.heap.size = gNf
   revert gNf
   exact key.out
 intro gNf Vf hVf
 have Z9 := Lib.hid hVf.1.1
 have S1 := Lib.hid hVf.1.2.1
 have S2 := Lib.hid hVf.1.2.2
 have S3 := Lib.hid hVf.2
 clear hVf QVf
 go_upto_region 8 with fail
 have SD := Lib.hid (show SL w gNe ⟨x.f0, x.f1, cse, xa, ya⟩ A1 c1 B1 d1 gT (pt2 x a b mi lb) none 0 none 0 gNf ⟨la, x.f1, csf, xz, yz⟩ A3 c3 B3 d3 zP zP zP Vf from ⟨Z9.out.b, S1.out, S2.out, S3.out, Z9.out.h12, Z9.out.h13, Z9.out.h14⟩)
 have q20 := (blk_cell Z9.out.h12 0).trans rfl
 have z20 := blk_frozen Z9.out.h12 0
 have q21 := (blk_cell Z9.out.h12 1).trans rfl
 have z21 := blk_frozen Z9.out.h12 1
 have q22 := (blk_cell Z9.out.h12 2).trans rfl
 have z22 := blk_frozen Z9.out.h12 2
 have q23 := (blk_cell Z9.out.h12 3).trans rfl
 have z23 := blk_frozen Z9.out.h12 3
 have q24 := (blk_cell Z9.out.h12 4).trans rfl
 have z24 := blk_frozen Z9.out.h12 4
 have q30 := (blk_cell Z9.out.h13 0).trans rfl
 have z30 := blk_frozen Z9.out.h13 0
 have q31 := (blk_cell Z9.out.h13 1).trans rfl
 have z31 := blk_frozen Z9.out.h13 1
 have q32 := (blk_cell Z9.out.h13 2).trans rfl
 have z32 := blk_frozen Z9.out.h13 2
 have q33 := (blk_cell Z9.out.h13 3).trans rfl
 have z33 := blk_frozen Z9.out.h13 3
 have q34 := (blk_cell Z9.out.h13 4).trans rfl
 have z34 := blk_frozen Z9.out.h13 4
 have q40 := (blk_cell Z9.out.h14 0).trans rfl
 have z40 := blk_frozen Z9.out.h14 0
 have q41 := (blk_cell Z9.out.h14 1).trans rfl
 have z41 := blk_frozen Z9.out.h14 1
 have q42 := (blk_cell Z9.out.h14 2).trans rfl
 have z42 := blk_frozen Z9.out.h14 2
 have q43 := (blk_cell Z9.out.h14 3).trans rfl
 have z43 := blk_frozen Z9.out.h14 3
 have q44 := (blk_cell Z9.out.h14 4).trans rfl
 have z44 := blk_frozen Z9.out.h14 4
 refine wp_region_noPanic ?_
 refine wp_region_held_drew (S := (fun w' => QL w gNe ⟨x.f0, x.f1, cse, xa, ya⟩ A1 c1 B1 d1 gT (pt2 x a b mi lb) none 0 none 0 gNf ⟨la, x.f1, csf, xz, yz⟩ A3 c3 B3 d3 w')) ?hm_r ?hS_r (fun hHeld => ?_)
 case hm_r => kernel_rfl
 case hS_r => exact SD.out.drew.ql
 refine wpAnyH_take (i := 0) (oi := ?or0) (v := ?vr0) ?hi_r0 ?k1_r0 ?k2_r0 ?k3_r0 (fun _ _ _ h => h) (Or.inl ⟨?g_r0, ?y_r0⟩) (by assumption) ?r_r0
 case hi_r0 => (simp only [List.getElem?_toArray, List.getElem?_cons_succ, List.getElem?_cons_zero]; rfl)
 case k1_r0 => kernel_rfl
 case k2_r0 => kernel_rfl
 case k3_r0 => kernel_rfl
 case g_r0 => rfl
 case y_r0 => (intro w hSw; (try dsimp only at hSw); first | (go_simp; done) | (go_simp; with_reducible rfl))
 (try simp only [Act.put, List.setIfInBounds_toArray, List.set_cons_zero, List.set_cons_succ])
 refine wpAnyH_take (i := 1) (oi := ?or1) (v := ?vr1) ?hi_r1 ?k1_r1 ?k2_r1 ?k3_r1 (fun _ _ _ h => h) (Or.inl ⟨?g_r1, ?y_r1⟩) (by assumption) ?r_r1
 case hi_r1 => (simp only [List.getElem?_toArray, List.getElem?_cons_succ, List.getElem?_cons_zero]; rfl)
 case k1_r1 => kernel_rfl
 case k2_r1 => kernel_rfl
 case k3_r1 => kernel_rfl
 case g_r1 => rfl
 case y_r1 => (intro w hSw; (try dsimp only at hSw); first | (go_simp; done) | (go_simp; with_reducible rfl))
 (try simp only [Act.put, List.setIfInBounds_toArray, List.set_cons_zero, List.set_cons_succ])
 refine wpAnyH_take (i := 2) (oi := ?or2) (v := ?vr2) ?hi_r2 ?k1_r2 ?k2_r2 ?k3_r2 (fun _ _ _ h => h) (Or.inl ⟨?g_r2, ?y_r2⟩) (by assumption) ?r_r2
 case hi_r2 => (simp only [List.getElem?_toArray, List.getElem?_cons_succ, List.getElem?_cons_zero]; rfl)
 case k1_r2 => kernel_rfl
 case k2_r2 => kernel_rfl
 case k3_r2 => kernel_rfl
 case g_r2 => rfl
 case y_r2 => (intro w hSw; (try dsimp only at hSw); first | (go_simp; done) | (go_simp; with_reducible rfl))
 (try simp only [Act.put, List.setIfInBounds_toArray, List.set_cons_zero, List.set_cons_succ])
 refine wpAnyH_ready (rs := [3]) ?k1_r3 (by simp) ?r_r3
 case k1_r3 => kernel_rfl
 refine AllReadyH.cons (o := ?or3) ?hi_r3 (fun K hK => ?s_r3) ?m_r3
 case hi_r3 => (simp only [List.getElem?_toArray, List.getElem?_cons_succ, List.getElem?_cons_zero]; rfl)
 case m_r3 => exact AllReadyH.nil
 go_simp
 refine hK.out _ _ (SL.ql (SL.drew (SD.out.one ⟨x.f0, x.f1, cse, xa, ya⟩ A1 c1 B1 d1))) (fun hHeld => ?_)
 clear hK K
 (try simp only [Act.put, List.setIfInBounds_toArray, List.set_cons_zero, List.set_cons_succ])
 refine wpAnyH_ready (rs := [4]) ?k1_r4 (by simp) ?r_r4
 case k1_r4 => kernel_rfl
 refine AllReadyH.cons (o := ?or4) ?hi_r4 (fun K hK => ?s_r4) ?m_r4
 case hi_r4 => (simp only [List.getElem?_toArray, List.getElem?_cons_succ, List.getElem?_cons_zero]; rfl)
 case m_r4 => exact AllReadyH.nil
 go_simp
 refine hK.out _ _ (SL.ql (SL.drew ((SD.out.one ⟨x.f0, x.f1, cse, xa, ya⟩ A1 c1 B1 d1).two (pt2 x a b mi lb) none 0 none 0))) (fun hHeld => ?_)
 clear hK K
 (try simp only [Act.put, List.setIfInBounds_toArray, List.set_cons_zero, List.set_cons_succ])
 refine wpAnyH_ready (rs := [5]) ?k1_r5 (by simp) ?r_r5
 case k1_r5 => kernel_rfl
 refine AllReadyH.cons (o := ?or5) ?hi_r5 (fun K hK => ?s_r5) ?m_r5
 case hi_r5 => (simp only [List.getElem?_toArray, List.getElem?_cons_succ, List.getElem?_cons_zero]; rfl)
 case m_r5 => exact AllReadyH.nil
 go_simp
 refine hK.out _ _ (SL.ql (SL.drew (((SD.out.one ⟨x.f0, x.f1, cse, xa, ya⟩ A1 c1 B1 d1).two (pt2 x a b mi lb) none 0 none 0).three ⟨la, x.f1, csf, xz, yz⟩ A3 c3 B3 d3))) (fun hHeld => ?_)
 clear hK K
 (try simp only [Act.put, List.setIfInBounds_toArray, List.set_cons_zero, List.set_cons_succ])
 refine wpAnyH_done (by kernel_rfl) ?_ _
 refine NoPanic.normal ?_
 have L := (SL.drew (((SD.out.one ⟨x.f0, x.f1, cse, xa, ya⟩ A1 c1 B1 d1).two (pt2 x a b mi lb) none 0 none 0).three ⟨la, x.f1, csf, xz, yz⟩ A3 c3 B3 d3))
 refine gen2 (φ := fun W => Exit.then _ _ Exit.normal _ W) (P := fun W => SL w gNe ⟨x.f0, x.f1, cse, xa, ya⟩ A1 c1 B1 d1 gT (pt2 x a b mi lb) none 0 none 0 gNf ⟨la, x.f1, csf, xz, yz⟩ A3 c3 B3 d3 (gC ⟨x.f0, x.f1, cse, xa, ya⟩ A1 c1 B1 d1) (gC (pt2 x a b mi lb) none 0 none 0) (gC ⟨la, x.f1, csf, xz, yz⟩ A3 c3 B3 d3) W) L ?_
 rintro W hW
 have E1 : pt1 x a = ⟨x.f0, x.f1, cse, xa, ya⟩ := by unfold pt1; rw [← HCe.out, HXA.out.1, HXA.out.2]
 have E3 : pt3 x a b la = ⟨la, x.f1, csf, xz, yz⟩ := by unfold pt3; rw [HXB.out.1, HXB.out.2, HXZ.out.1, HXZ.out.2, ← HM.out, ← HCf.out]
 go_wp2
 refine bodyPost_ret (results_list (rs := [.cell 12 25, .cell 13 25, .cell 14 25]) rfl (by simp) (.cell _ _ (gC ⟨x.f0, x.f1, cse, xa, ya⟩ A1 c1 B1 d1) (0, 0) _ rfl hW.h12 Tryd.underlying25 rfl (by kernel_rfl) (.cell _ _ (gC (pt2 x a b mi lb) none 0 none 0) (0, 0) _ rfl hW.h13 Tryd.underlying25 rfl (by kernel_rfl) (.cell _ _ (gC ⟨la, x.f1, csf, xz, yz⟩ A3 c3 B3 d3) (0, 0) _ rfl hW.h14 Tryd.underlying25 rfl (by kernel_rfl) .nil)))) rfl ?_
 rw [E1, E3]
 exact ⟨A1, c1, B1, d1, A3, c3, B3, d3, rfl, hW.s1.t.toGR, hW.s2.t.toGR, hW.s3.t.toGR, hW.b⟩
end Go.Proofs.YtjphmebhofkhcaaDoor.Seg
/- Segments: the walk of the law SegmentParts. Conditions: none beside the row's. -/
namespace Go.Proofs.YtjphmebhofkhcaaDoor.Seg
open Go.RowKit Go.Proofs.YtjphmebhofkhcaaDoorPl Go.Proofs.YtjphmebhofkhcaaDoorW.PrintWords Go.Proofs.YtjphmebhofkhcaaDoorW.PrintLast Go.Proofs.YtjphmebhofkhcaaDoorW.PrintMore Go.Proofs.YtjphmebhofkhcaaDoor.Rope Go.Proofs.YtjphmebhofkhcaaDoor.PSegAll Go.Proofs.YtjphmebhofkhcaaDoor.Pure
set_option linter.unusedVariables false
set_option linter.unusedSimpArgs false
/-- A box of a plain segment and a new one. -/
structure NP (w : World) (x : G) (A : Option Addr) (c : Nat) (B : Option Addr) (d : Nat) (W : World) : Prop where
 b : Below w.heap.size w W
 h4 : W.heap[w.heap.size]? = some (.cells (gC x A c B d) 25 (0, 0))
 h8 : W.heap[w.heap.size + 1]? = some (.cells zP 25 (0, 0))
theorem NP.next {w W W' : World} {x : G} {A : Option Addr} {c : Nat} {B : Option Addr} {d : Nat} (h : NP w x A c B d W) (hb : Below W.heap.size W W') : NP w x A c B d W' := ⟨below_step h.b hb, blk_below h.h4 hb, blk_below h.h8 hb⟩
theorem NP.five {w W : World} {x : G} {A : Option Addr} {c : Nat} {B : Option Addr} {d : Nat} (h : NP w x A c B d W) (y : G) (A' : Option Addr) (c' : Nat) (B' : Option Addr) (d' : Nat) : Below w.heap.size w (layP W (w.heap.size + 1) y A' c' B' d') ∧ (layP W (w.heap.size + 1) y A' c' B' d').heap[w.heap.size]? = some (.cells (gC x A c B d) 25 (0, 0)) := ⟨layP_below h.b (by omega), (layP_far (by omega)).trans h.h4⟩
set_option maxRecDepth 1000000 in
set_option maxHeartbeats 8000000 in
theorem refPiece5_calls (x : G) (A : Option Addr) (c : Nat) (B : Option Addr) (d : Nat) (at_ n i : Int) (w : World) (hv : Lib.validD x.f2.data.toList = true) (hz : x.f2.size ≤ 1099511627776) {a b : Int} (ha : a = clampI (cnt x.f2) at_) (hb_ : b = a + lenI (cnt x.f2) a n) :
  Calls Tryd.prog 26 #[.agg (gC x A c B d), .int .i64 at_, .int .i64 n, .int .i64 i] w fun e w' => e = .returned (.agg (gC (pieG x a b i) none 0 none 0)) ∧ Below w.heap.size w w' := by
 have HAB := Lib.hid (And.intro ha hb_)
 clear ha hb_
 go_enter Tryd.func26, Tryd.ntmps26
 go_upto_region 1 with fail
 refine gen2 (φ := fun W => Code.wp _ _ _ _ W) (P := fun W => NP w x A c B d W) ⟨below_alloc (below_alloc (Below.refl _ _) _) _, blk_alloc (blk_new w _) _, blk_newS (by simp)⟩ ?_
 rintro V hV
 have ZV := Lib.hid hV
 have x0 := (blk_cell hV.h4 0).trans rfl
 have x1 := (blk_cell hV.h4 1).trans rfl
 have x2 := (blk_cell hV.h4 2).trans rfl
 have x3 := (blk_cell hV.h4 3).trans rfl
 have x4 := (blk_cell hV.h4 4).trans rfl
 clear hV
 go_upto_region 2 with (go_at_call 54; refine (rplaces5_calls x A c B d at_ n _ hv hz HAB.out.1 HAB.out.2).mono ?_; rintro e w1 ⟨rfl, hb1⟩; have Z1 := Lib.hid (ZV.out.next hb1); clear hb1)
 clear x0 x1 x2 x3 x4
 have ZD := Lib.hid (show NP w x A c B d w1.drew from Z1.out.next (by with_reducible repeat (first | exact Below.refl _ _ | apply pw_below_drewN | apply Below.drew)))
 refine wp_region_noPanic ?_
 refine wp_region_held_drew (S := (fun w' => Q w w.heap.size x A c B d w')) ?hm_r ?hS_r (fun hHeld => ?_)
 case hm_r => kernel_rfl
 case hS_r => exact Q.at ZD.out.b ZD.out.h4
 refine wpAnyH_take (i := 0) (oi := ?or0) (v := ?vr0) ?hi_r0 ?k1_r0 ?k2_r0 ?k3_r0 (fun _ _ _ h => h) (Or.inl ⟨?g_r0, ?y_r0⟩) (by assumption) ?r_r0
 case hi_r0 => (simp only [List.getElem?_toArray, List.getElem?_cons_succ, List.getElem?_cons_zero]; rfl)
 case k1_r0 => kernel_rfl
 case k2_r0 => kernel_rfl
 case k3_r0 => kernel_rfl
 case g_r0 => rfl
 case y_r0 => (intro w hSw; (try dsimp only at hSw); first | (go_simp; done) | (go_simp; with_reducible rfl))
 (try simp only [Act.put, List.setIfInBounds_toArray, List.set_cons_zero, List.set_cons_succ])
 refine wpAnyH_take (i := 1) (oi := ?or1) (v := ?vr1) ?hi_r1 ?k1_r1 ?k2_r1 ?k3_r1 (fun _ _ _ h => h) (Or.inl ⟨?g_r1, ?y_r1⟩) (by assumption) ?r_r1
 case hi_r1 => (simp only [List.getElem?_toArray, List.getElem?_cons_succ, List.getElem?_cons_zero]; rfl)
 case k1_r1 => kernel_rfl
 case k2_r1 => kernel_rfl
 case k3_r1 => kernel_rfl
 case g_r1 => rfl
 case y_r1 => (intro w hSw; (try dsimp only at hSw); first | (go_simp; done) | (go_simp; with_reducible rfl))
 (try simp only [Act.put, List.setIfInBounds_toArray, List.set_cons_zero, List.set_cons_succ])
 refine wpAnyH_take (i := 2) (oi := ?or2) (v := ?vr2) ?hi_r2 ?k1_r2 ?k2_r2 ?k3_r2 (fun _ _ _ h => h) (Or.inl ⟨?g_r2, ?y_r2⟩) (by assumption) ?r_r2
 case hi_r2 => (simp only [List.getElem?_toArray, List.getElem?_cons_succ, List.getElem?_cons_zero]; rfl)
 case k1_r2 => kernel_rfl
 case k2_r2 => kernel_rfl
 case k3_r2 => kernel_rfl
 case g_r2 => rfl
 case y_r2 => (intro w hSw; (try dsimp only at hSw); first | (go_simp; done) | (go_simp; with_reducible rfl))
 (try simp only [Act.put, List.setIfInBounds_toArray, List.set_cons_zero, List.set_cons_succ])
 refine wpAnyH_take (i := 3) (oi := ?or3) (v := ?vr3) ?hi_r3 ?k1_r3 ?k2_r3 ?k3_r3 (fun _ _ _ h => h) (Or.inl ⟨?g_r3, ?y_r3⟩) (by assumption) ?r_r3
 case hi_r3 => (simp only [List.getElem?_toArray, List.getElem?_cons_succ, List.getElem?_cons_zero]; rfl)
 case k1_r3 => kernel_rfl
 case k2_r3 => kernel_rfl
 case k3_r3 => kernel_rfl
 case g_r3 => rfl
 case y_r3 => (intro w hSw; (try dsimp only at hSw); first | (go_simp; done) | (go_simp; with_reducible rfl))
 (try simp only [Act.put, List.setIfInBounds_toArray, List.set_cons_zero, List.set_cons_succ])
 refine wpAnyH_take (i := 4) (oi := ?or4) (v := ?vr4) ?hi_r4 ?k1_r4 ?k2_r4 ?k3_r4 (fun _ _ _ h => h) (Or.inl ⟨?g_r4, ?y_r4⟩) (by assumption) ?r_r4
 case hi_r4 => (simp only [List.getElem?_toArray, List.getElem?_cons_succ, List.getElem?_cons_zero]; rfl)
 case k1_r4 => kernel_rfl
 case k2_r4 => kernel_rfl
 case k3_r4 => kernel_rfl
 case g_r4 => rfl
 case y_r4 => (intro w hSw; (try dsimp only at hSw); first | (go_simp; done) | (go_simp; with_reducible rfl))
 (try simp only [Act.put, List.setIfInBounds_toArray, List.set_cons_zero, List.set_cons_succ])
 refine wpAnyH_take (i := 5) (oi := ?or5) (v := ?vr5) ?hi_r5 ?k1_r5 ?k2_r5 ?k3_r5 (fun _ _ _ h => h) (Or.inl ⟨?g_r5, ?y_r5⟩) (by assumption) ?r_r5
 case hi_r5 => (simp only [List.getElem?_toArray, List.getElem?_cons_succ, List.getElem?_cons_zero]; rfl)
 case k1_r5 => kernel_rfl
 case k2_r5 => kernel_rfl
 case k3_r5 => kernel_rfl
 case g_r5 => rfl
 case y_r5 => (intro w hSw; (try dsimp only at hSw); first | (go_simp; done) | (go_simp; with_reducible rfl))
 (try simp only [Act.put, List.setIfInBounds_toArray, List.set_cons_zero, List.set_cons_succ])
 refine wpAnyH_take (i := 6) (oi := ?or6) (v := ?vr6) ?hi_r6 ?k1_r6 ?k2_r6 ?k3_r6 (fun _ _ _ h => h) (Or.inl ⟨?g_r6, ?y_r6⟩) (by assumption) ?r_r6
 case hi_r6 => (simp only [List.getElem?_toArray, List.getElem?_cons_succ, List.getElem?_cons_zero]; rfl)
 case k1_r6 => kernel_rfl
 case k2_r6 => kernel_rfl
 case k3_r6 => kernel_rfl
 case g_r6 => rfl
 case y_r6 => (intro w hSw; (try dsimp only at hSw); first | (go_simp; done) | (go_simp; with_reducible rfl))
 (try simp only [Act.put, List.setIfInBounds_toArray, List.set_cons_zero, List.set_cons_succ])
 refine wpAnyH_ready (rs := [7]) ?k1_r7 (by simp) ?r_r7
 case k1_r7 => kernel_rfl
 refine AllReadyH.cons (o := ?or7) ?hi_r7 (fun K hK => ?s_r7) ?m_r7
 case hi_r7 => (simp only [List.getElem?_toArray, List.getElem?_cons_succ, List.getElem?_cons_zero]; rfl)
 case m_r7 => exact AllReadyH.nil
 go_simp
 (go_at_call 56; (refine (rcut5_calls x.f2 a b _ hv hz).mono ?_); rintro e w7 ⟨rfl, hb⟩; have Z7 := Lib.hid (ZD.out.next hb); have q0 := (blk_cell Z7.out.h8 0).trans rfl; have z0 := blk_frozen Z7.out.h8 0; have q1 := (blk_cell Z7.out.h8 1).trans rfl; have z1 := blk_frozen Z7.out.h8 1; have q2 := (blk_cell Z7.out.h8 2).trans rfl; have z2 := blk_frozen Z7.out.h8 2; have q3 := (blk_cell Z7.out.h8 3).trans rfl; have z3 := blk_frozen Z7.out.h8 3; have q4 := (blk_cell Z7.out.h8 4).trans rfl; have z4 := blk_frozen Z7.out.h8 4; clear hb)
 (try go_wp2_with fail)
 refine hK.out _ _ (Q.at Z7.out.b Z7.out.h4) (fun hHeld => ?_)
 clear hK K
 (try simp only [Act.put, List.setIfInBounds_toArray, List.set_cons_zero, List.set_cons_succ])
 refine wpAnyH_take (i := 8) (oi := ?or8) (v := ?vr8) ?hi_r8 ?k1_r8 ?k2_r8 ?k3_r8 (fun _ _ _ h => h) (Or.inl ⟨?g_r8, ?y_r8⟩) (by assumption) ?r_r8
 case hi_r8 => (simp only [List.getElem?_toArray, List.getElem?_cons_succ, List.getElem?_cons_zero]; rfl)
 case k1_r8 => kernel_rfl
 case k2_r8 => kernel_rfl
 case k3_r8 => kernel_rfl
 case g_r8 => rfl
 case y_r8 => (intro w hSw; (try dsimp only at hSw); first | (go_simp; done) | (go_simp; with_reducible rfl))
 (try simp only [Act.put, List.setIfInBounds_toArray, List.set_cons_zero, List.set_cons_succ])
 refine wpAnyH_ready (rs := [9]) ?k1_r9 (by simp) ?r_r9
 case k1_r9 => kernel_rfl
 refine AllReadyH.cons (o := ?or9) ?hi_r9 (fun K hK => ?s_r9) ?m_r9
 case hi_r9 => (simp only [List.getElem?_toArray, List.getElem?_cons_succ, List.getElem?_cons_zero]; rfl)
 case m_r9 => exact AllReadyH.nil
 go_simp
 refine hK.out _ _ (Q.at (Z7.out.five (pieG x a b i) none 0 none 0).1 (Z7.out.five (pieG x a b i) none 0 none 0).2) (fun hHeld => ?_)
 clear hK K
 (try simp only [Act.put, List.setIfInBounds_toArray, List.set_cons_zero, List.set_cons_succ])
 refine wpAnyH_done (by kernel_rfl) ?_ _
 refine NoPanic.normal ?_
 refine gen2 (φ := fun W => Exit.then _ _ Exit.normal _ W) (P := fun W => W.heap[w.heap.size + 1]? = some (.cells (gC (pieG x a b i) none 0 none 0) 25 (0, 0)) ∧ Below w.heap.size w W) ⟨layP_blk (y := pieG x a b i) (A := none) (c := 0) (B := none) (d := 0) Z7.out.h8, layP_below (y := pieG x a b i) (A := none) (c := 0) (B := none) (d := 0) Z7.out.b (by omega)⟩ ?_
 rintro W ⟨g1, hb⟩
 go_wp2
 refine bodyPost_ret (results_cell_row rfl _ _ (w.heap.size + 1) 25 (gC (pieG x a b i) none 0 none 0) (0, 0) _ rfl g1 Tryd.underlying25 rfl (by kernel_rfl)) rfl ?_
 exact ⟨rfl, hb⟩
theorem partA_length (a : Int) (xs : List S67) : (partA a xs).length ≤ xs.length := by
 have : ∀ (l o : List S67), (l.foldl (fun o s => addL o ⟨s.f0, s.f1, mn s.f2 a⟩) o).length ≤ o.length + l.length := by
  intro l
  induction l with
  | nil => intro o; simp
  | cons s r ih =>
   intro o
   rw [List.foldl_cons]
   refine Nat.le_trans (ih _) ?_
   have := addL_length o ⟨s.f0, s.f1, mn s.f2 a⟩
   simp only [List.length_cons]
   omega
 simpa [partA] using this xs []
theorem pt_sz {x : G} (hv : Lib.validD x.f2.data.toList = true) (h : Sz x) (a b mi la lb : Int) : Sz (pt1 x a) ∧ Sz (pt2 x a b mi lb) ∧ Sz (pt3 x a b la) := by
 refine ⟨⟨Nat.le_trans (cut_le hv _ _) h.s2, Nat.le_trans (partA_length _ _) h.s3, Nat.le_trans (List.length_filter_le _ _) h.s4⟩, ⟨Nat.le_trans (cut_le hv _ _) h.s2, (by show (0 : Nat) ≤ _; omega), (by show (0 : Nat) ≤ _; omega)⟩, ⟨Nat.le_trans (cut_le hv _ _) h.s2, Nat.le_trans (partB_length _ _) (Nat.le_trans (partB_length _ _) h.s3), Nat.le_trans (sitesB_length _ _) (Nat.le_trans (sitesB_length _ _) h.s4)⟩⟩
theorem nil_gr (w : World) (y : G) (h3 : y.f3 = []) (h4 : y.f4 = []) : TR w y none 0 none 0 := (nG_sp 0 0 w).toTR.with (x := y) h3.symm h4.symm
abbrev iC (i j k : Int) : Array Value := #[.int .i64 i, .int .i64 j, .int .i64 k]
/-- The law's arguments in blocks of its own. -/
structure JA (w : World) (x : G) (A : Option Addr) (c : Nat) (B : Option Addr) (d : Nat) (y : D) (i j k : Int) (W : World) : Prop extends JZ w x A c B d y W where
 h5 : W.heap[w.heap.size + 1 + 1]? = some (.cells (iC i j k) 51 (0, 0))
theorem JA.next {w W W' : World} {x : G} {A : Option Addr} {c : Nat} {B : Option Addr} {d : Nat} {y : D} {i j k : Int} (h : JA w x A c B d y i j k W) (hb : Below W.heap.size W W') : JA w x A c B d y i j k W' := ⟨h.toJZ.next hb, blk_below h.h5 hb⟩
/-- What the last region's loads read. -/
abbrev F9 (V : World) (w : World) (x : G) (A : Option Addr) (c : Nat) (B : Option Addr) (d : Nat) (y : D) (i : Int) (gS : Nat) (p A5 : Option Addr) (c5 : Nat) (B5 : Option Addr) (d5 : Nat) (k12 : Nat) (z1 : G) (q1 A1 : Option Addr) (c1 : Nat) (B1 : Option Addr) (d1 : Nat) (z2 : G) (q2 : Option Addr) (z3 : G) (q3 A3 : Option Addr) (c3 : Nat) (B3 : Option Addr) (d3 : Nat) (k15 : Nat) (A6 : Option Addr) (c6 : Nat) (B6 : Option Addr) (d6 : Nat) (A8 : Option Addr) (c8 : Nat) (B8 : Option Addr) (d8 : Nat) (k18 : Nat) (tw : G) (w' : World) : Prop :=
 T3 V k12 (k12 + 1) (k12 + 1 + 1) z1 q1 A1 c1 B1 d1 z2 q2 none 0 none 0 z3 q3 A3 c3 B3 d3 w' ∧ Q5 V gS x p A5 c5 B5 d5 w' ∧ Q V k15 z1 A6 c6 B6 d6 w' ∧ Q V (k15 + 1) z2 none 0 none 0 w' ∧ Q V (k15 + 1 + 1) z3 A8 c8 B8 d8 w' ∧ Q V k18 tw none 0 none 0 w' ∧ Q V w.heap.size x A c B d w' ∧ w'.cell? ⟨w.heap.size + 1, 0, none⟩ = some (.int .i64 y.f0) ∧ w'.cell? ⟨w.heap.size + 1, 1, none⟩ = some (.int .i64 y.f1) ∧ w'.cell? ⟨w.heap.size + 1 + 1, 0, none⟩ = some (.int .i64 i)
/-- .. and where it comes of. -/
structure G9 (w : World) (x : G) (A : Option Addr) (c : Nat) (B : Option Addr) (d : Nat) (y : D) (i j k : Int) (gS : Nat) (p A5 : Option Addr) (c5 : Nat) (B5 : Option Addr) (d5 : Nat) (k12 : Nat) (z1 : G) (q1 A1 : Option Addr) (c1 : Nat) (B1 : Option Addr) (d1 : Nat) (z2 : G) (q2 : Option Addr) (z3 : G) (q3 A3 : Option Addr) (c3 : Nat) (B3 : Option Addr) (d3 : Nat) (k15 : Nat) (A6 : Option Addr) (c6 : Nat) (B6 : Option Addr) (d6 : Nat) (A8 : Option Addr) (c8 : Nat) (B8 : Option Addr) (d8 : Nat) (k18 : Nat) (tw : G) (V : World) : Prop where
 z : JA w x A c B d y i j k V
 s : SB gS x p A5 c5 B5 d5 V
 t : TZ k12 (k12 + 1) (k12 + 1 + 1) z1 q1 A1 c1 B1 d1 z2 q2 none 0 none 0 z3 q3 A3 c3 B3 d3 V
 r1 : V.heap[k15]? = some (.cells (gC z1 A6 c6 B6 d6) 25 (0, 0))
 r2 : V.heap[k15 + 1]? = some (.cells (gC z2 none 0 none 0) 25 (0, 0))
 r3 : V.heap[k15 + 1 + 1]? = some (.cells (gC z3 A8 c8 B8 d8) 25 (0, 0))
 g1 : GR V z1 A6 c6 B6 d6
 g3 : GR V z3 A8 c8 B8 d8
 h18 : V.heap[k18]? = some (.cells (gC tw none 0 none 0) 25 (0, 0))
theorem G9.f {w : World} {x : G} {A : Option Addr} {c : Nat} {B : Option Addr} {d : Nat} {y : D} {i j k : Int} {gS : Nat} {p A5 : Option Addr} {c5 : Nat} {B5 : Option Addr} {d5 : Nat} {k12 : Nat} {z1 : G} {q1 A1 : Option Addr} {c1 : Nat} {B1 : Option Addr} {d1 : Nat} {z2 : G} {q2 : Option Addr} {z3 : G} {q3 A3 : Option Addr} {c3 : Nat} {B3 : Option Addr} {d3 : Nat} {k15 : Nat} {A6 : Option Addr} {c6 : Nat} {B6 : Option Addr} {d6 : Nat} {A8 : Option Addr} {c8 : Nat} {B8 : Option Addr} {d8 : Nat} {k18 : Nat} {tw : G} {V W : World} (h : G9 w x A c B d y i j k gS p A5 c5 B5 d5 k12 z1 q1 A1 c1 B1 d1 z2 q2 z3 q3 A3 c3 B3 d3 k15 A6 c6 B6 d6 A8 c8 B8 d8 k18 tw V) (hb : Below V.heap.size V W) :
  F9 V w x A c B d y i gS p A5 c5 B5 d5 k12 z1 q1 A1 c1 B1 d1 z2 q2 z3 q3 A3 c3 B3 d3 k15 A6 c6 B6 d6 A8 c8 B8 d8 k18 tw W :=
 ⟨T3.of h.t hb, Q5.of h.s.h hb, Q.of h.r1 hb, Q.of h.r2 hb, Q.of h.r3 hb, Q.of h.h18 hb, Q.of h.z.h2 hb, (blk_cell (blk_below h.z.h3 hb) 0).trans rfl, (blk_cell (blk_below h.z.h3 hb) 1).trans rfl, (blk_cell (blk_below h.z.h5 hb) 0).trans rfl⟩
set_option maxRecDepth 1000000 in
set_option maxHeartbeats 16000000 in
theorem segParts_walk (x : G) (A : Option Addr) (c : Nat) (B : Option Addr) (d : Nat) (y : D) (i j k : Int) (w : World) (hT : Tabs w) (hr : GR w x A c B d) (hy : y.f4.size ≤ 140737488355328) :
  Calls Tryd.prog 6 #[.agg (gC x A c B d), .agg (dC y), .agg (iC i j k)] w fun e w' => e = .returned (.bool true) ∧ Below w.heap.size w w' := by
 have HT := Lib.hid hT
 have HR := Lib.hid hr
 clear hT hr
 obtain ⟨y1, hy1⟩ : ∃ y : G, y = pt1 (tG ⟨#[97, 98, 99]⟩) 1 := ⟨_, rfl⟩
 obtain ⟨y2, hy2⟩ : ∃ y : G, y = pt2 (tG ⟨#[97, 98, 99]⟩) 1 2 5 3 := ⟨_, rfl⟩
 obtain ⟨y3, hy3⟩ : ∃ y : G, y = pt3 (tG ⟨#[97, 98, 99]⟩) 1 2 6 := ⟨_, rfl⟩
 have HY := Lib.hid (And.intro hy1 (And.intro hy2 hy3))
 have E1 := Lib.hid (show y1.f2 = ⟨#[97]⟩ by
  rw [hy1]
  show cutT ⟨#[97, 98, 99]⟩ 0 1 = _
  unfold cutT
  rw [abc_one]
  rfl)
 have E2 := Lib.hid (show y2.f1 = 3 ∧ y3.f0 = 6 by rw [hy2, hy3]; exact ⟨rfl, rfl⟩)
 clear hy1 hy2 hy3
 go_enter Tryd.func6, Tryd.ntmps6
 go_upto_region 1 with fail
 refine gen2 (φ := fun W => Code.wp _ _ _ _ W) (P := fun W => JA w x A c B d y i j k W) ⟨⟨below_alloc (below_alloc (below_alloc (Below.refl _ _) _) _) _, blk_alloc (blk_alloc (blk_new w _) _) _, blk_alloc (blk_newS (by simp)) _⟩, blk_newS (by simp)⟩ ?_
 intro V0 hV0
 have Z0 := Lib.hid hV0
 clear hV0
 go_upto_region 2 with (first | (go_at_call 9; refine (text5_calls ⟨#[97, 98, 99]⟩ _ (HT.out.below Z0.out.b) (by decide +kernel) (by decide)).mono ?_; rintro e w1 ⟨p1, A0, c0, B0, d0, rfl, s1, hb⟩; have S0 := Lib.hid s1; have Z1 := Lib.hid (Z0.out.next hb); clear s1 hb) | (go_at_call 20; refine (segPart_calls (tG ⟨#[97, 98, 99]⟩) p1 A0 c0 B0 d0 1 1 5 6 3 _ S0.out (by decide) (by decide) (by decide) abc_places.1 abc_places.2).mono ?_; rw [← HY.out.1, ← HY.out.2.1, ← HY.out.2.2]; rintro e w2 ⟨q1, A1, c1, B1, d1, q2, q3, A3, c3, B3, d3, rfl, s1, s2, s3, hb⟩; have S1 := Lib.hid s1; have S2 := Lib.hid s2; have S3 := Lib.hid s3; have Z2 := Lib.hid (Z1.out.next hb); clear s1 s2 s3 hb S0 Z1))
 refine gen2 (φ := fun W => Code.wp _ _ _ _ W) (P := fun W => JA w x A c B d y i j k W ∧ TZ w2.heap.size (w2.heap.size + 1) (w2.heap.size + 1 + 1) y1 q1 A1 c1 B1 d1 y2 q2 none 0 none 0 y3 q3 A3 c3 B3 d3 W) ⟨Z2.out.next (below_alloc (below_alloc (below_alloc (Below.refl _ _) _) _) _), TZ.new S1.out S2.out S3.out⟩ ?_
 rintro V ⟨hz, ht⟩
 have ZV := Lib.hid hz
 have TV := Lib.hid ht
 have sa0 := (blk_cell ht.s1.h 0).trans rfl
 have sa1 := (blk_cell ht.s1.h 1).trans rfl
 have sa2 := (blk_cell ht.s1.h 2).trans rfl
 have sa3 := (blk_cell ht.s1.h 3).trans rfl
 have sa4 := (blk_cell ht.s1.h 4).trans rfl
 have sb0 := (blk_cell ht.s2.h 0).trans rfl
 have sb1 := (blk_cell ht.s2.h 1).trans rfl
 have sb2 := (blk_cell ht.s2.h 2).trans rfl
 have sb3 := (blk_cell ht.s2.h 3).trans rfl
 have sb4 := (blk_cell ht.s2.h 4).trans rfl
 have sc0 := (blk_cell ht.s3.h 0).trans rfl
 have sc1 := (blk_cell ht.s3.h 1).trans rfl
 have sc2 := (blk_cell ht.s3.h 2).trans rfl
 have sc3 := (blk_cell ht.s3.h 3).trans rfl
 have sc4 := (blk_cell ht.s3.h 4).trans rfl
 clear hz ht Z2 S1 S2 S3 Z0
 generalize w2.heap.size = k7 at *
 have HP1 := Lib.hid (show Rp V q1 y1.f2 from TV.out.s1.sp.rp)
 go_upto_region 4 with (first | (go_at_call 15; (refine (ropeG_calls y1 q1 A1 c1 B1 d1 _).mono ?_); rintro e wr ⟨rfl, hb⟩; have Zr := Lib.hid (ZV.out.next hb); have Tr := Lib.hid (TV.out.next hb); clear hb) | (go_at_call 16; (refine (text_rpS (p := q1) (s := y1.f2) Tr.out.s1.sp.rp).mono ?_); rw [E1.out]; rintro e wt ⟨rfl, hb⟩; have Zt := Lib.hid (Zr.out.next hb); have Tt := Lib.hid (Tr.out.next hb); have sb0 := (blk_cell Tt.out.s2.h 0).trans rfl; have sb1 := (blk_cell Tt.out.s2.h 1).trans rfl; have sb2 := (blk_cell Tt.out.s2.h 2).trans rfl; have sb3 := (blk_cell Tt.out.s2.h 3).trans rfl; have sb4 := (blk_cell Tt.out.s2.h 4).trans rfl; clear hb) | (go_at_call 23; (refine (labelG_calls y2 q2 none 0 none 0 _).mono ?_); rw [E2.out.1]; rintro e wu ⟨rfl, hb⟩; have Zu := Lib.hid (Zt.out.next hb); have Tu := Lib.hid (Tt.out.next hb); have sc0 := (blk_cell Tu.out.s3.h 0).trans rfl; have sc1 := (blk_cell Tu.out.s3.h 1).trans rfl; have sc2 := (blk_cell Tu.out.s3.h 2).trans rfl; have sc3 := (blk_cell Tu.out.s3.h 3).trans rfl; have sc4 := (blk_cell Tu.out.s3.h 4).trans rfl; clear hb) | (go_at_call 22; (refine (id_calls y3 q3 A3 c3 B3 d3 _).mono ?_); rw [E2.out.2]; rintro e wv ⟨rfl, hb⟩; have Z1 := Lib.hid (Zu.out.next hb); clear hb))
 clear ZV TV Zr Tr Zt Tt Zu Tu HP1 E1 E2 HY
 have x0 := (blk_cell Z1.out.h2 0).trans rfl
 have x1 := (blk_cell Z1.out.h2 1).trans rfl
 have x2 := (blk_cell Z1.out.h2 2).trans rfl
 have x3 := (blk_cell Z1.out.h2 3).trans rfl
 have x4 := (blk_cell Z1.out.h2 4).trans rfl
 have d0 := (blk_cell Z1.out.h3 0).trans rfl
 have d1 := (blk_cell Z1.out.h3 1).trans rfl
 have d2 := (blk_cell Z1.out.h3 2).trans rfl
 have d3 := (blk_cell Z1.out.h3 3).trans rfl
 have d4 := (blk_cell Z1.out.h3 4).trans rfl
 obtain ⟨lb, hlb⟩ : ∃ b, b = loadOk x y.f4 := ⟨_, rfl⟩
 have HLB := Lib.hid hlb
 clear hlb
 cases lb with
 | false =>
  go_upto_region 5 with (first | (go_at_call 18; refine (loaded5_calls x A c B d y _ (HT.out.below Z1.out.b) (HR.out.below Z1.out.b) hy).mono ?_; rw [← HLB.out]; simp only [Bool.false_eq_true, if_false]; rintro e wl ⟨rfl, hb⟩; have ZL := Lib.hid (Z1.out.next hb); clear hb))
  go_wp2
  go_ret
  exact ⟨rfl, below_alloc ZL.out.b _⟩
 | true =>
  obtain ⟨hsm, hok⟩ := loadOk_iff HLB.out.symm
  have HO := Lib.hid hok
  have HSM := Lib.hid (small_iff hsm)
  clear hsm hok
  go_upto_region 5 with (first | (go_at_call 18; refine (loaded5_calls x A c B d y _ (HT.out.below Z1.out.b) (HR.out.below Z1.out.b) hy).mono ?_; rw [← HLB.out]; simp only [if_true]; rintro e wl ⟨p, A5, c5, B5, d5, rfl, sl, hb⟩; have ZL := Lib.hid (Z1.out.next hb); have SL := Lib.hid sl; clear hb sl))
  refine gen2 (φ := fun W => Code.wp _ _ _ _ W) (P := fun W => JA w x A c B d y i j k W ∧ SB wl.heap.size x p A5 c5 B5 d5 W) ⟨ZL.out.next (below_alloc (Below.refl _ _) _), ⟨SL.out.below (below_alloc (Below.refl _ _) _), blk_new wl _⟩⟩ ?_
  rintro W1 ⟨hz, hs⟩
  have ZW := Lib.hid hz
  have SW := Lib.hid hs
  have s0 := (blk_cell hs.h 0).trans rfl
  have s1 := (blk_cell hs.h 1).trans rfl
  have s2 := (blk_cell hs.h 2).trans rfl
  have s3 := (blk_cell hs.h 3).trans rfl
  have s4 := (blk_cell hs.h 4).trans rfl
  clear x0 x1 x2 x3 x4 d0 d1 d2 d3 d4
  have u0 := (blk_cell hz.h3 0).trans rfl
  have u1 := (blk_cell hz.h3 1).trans rfl
  have v0 := (blk_cell hz.h5 0).trans rfl
  have v1 := (blk_cell hz.h5 1).trans rfl
  have v2 := (blk_cell hz.h5 2).trans rfl
  clear hz hs ZL SL Z1
  generalize wl.heap.size = gS at *
  have hin := cnt_in (okB_true HO.out.v).1 HO.out.z.s2
  have hcl := clamp_in (a := y.f0) hin.1
  obtain ⟨a, ha⟩ : ∃ a, a = clampI (cnt x.f2) y.f0 := ⟨_, rfl⟩
  rw [← ha] at hcl
  have hln := len_in (n := y.f1) hcl.2
  obtain ⟨b, hb_⟩ : ∃ b, b = a + lenI (cnt x.f2) a y.f1 := ⟨_, rfl⟩
  rw [← hb_] at hln
  obtain ⟨z1, hz1⟩ : ∃ y : G, y = pt1 x a := ⟨_, rfl⟩
  obtain ⟨z2, hz2⟩ : ∃ y : G, y = pt2 x a b i k := ⟨_, rfl⟩
  obtain ⟨z3, hz3⟩ : ∃ y : G, y = pt3 x a b j := ⟨_, rfl⟩
  obtain ⟨z4, hz4⟩ : ∃ y : G, y = pieG x a b i := ⟨_, rfl⟩
  obtain ⟨z5, hz5⟩ : ∃ y : G, y = twG i x := ⟨_, rfl⟩
  have HAB := Lib.hid (And.intro ha hb_)
  have HZ := Lib.hid (And.intro hz1 (And.intro hz2 hz3))
  have ZZ := Lib.hid (show Sz z1 ∧ Sz z2 ∧ Sz z3 by rw [hz1, hz2, hz3]; exact pt_sz (okB_true HO.out.v).1 HO.out.z a b i j k)
  have N2 := Lib.hid (show z2.f3 = [] ∧ z2.f4 = [] by rw [hz2]; exact ⟨rfl, rfl⟩)
  have HZ4 := Lib.hid hz4
  have HZ5 := Lib.hid hz5
  have N4 := Lib.hid (show (z4.f3 = [] ∧ z4.f4 = []) ∧ Sz z4 by rw [hz4]; exact ⟨⟨rfl, rfl⟩, ⟨Nat.le_trans (cut_le (okB_true HO.out.v).1 _ _) HO.out.z.s2, (by show (0 : Nat) ≤ _; omega), (by show (0 : Nat) ≤ _; omega)⟩⟩)
  have N5 := Lib.hid (show (z5.f3 = [] ∧ z5.f4 = []) ∧ Sz z5 ∧ z5.f0 = i ∧ z5.f1 = x.f1 ∧ z5.f2 = x.f2 by rw [hz5]; exact ⟨⟨rfl, rfl⟩, ⟨HO.out.z.s2, (by show (0 : Nat) ≤ _; omega), (by show (0 : Nat) ≤ _; omega)⟩, rfl, rfl, rfl⟩)
  clear hz1 hz2 hz3 hz4 hz5 ha hb_ hin hcl hln
  go_upto_region 8 with (first | (go_at_call 20; refine (segPart_calls x p A5 c5 B5 d5 y.f0 y.f1 i j k _ SW.out.sp HO.out.z.s2 HO.out.z.s3 HO.out.z.s4 HAB.out.1 HAB.out.2).mono ?_; rw [← HZ.out.1, ← HZ.out.2.1, ← HZ.out.2.2]; rintro e w8 ⟨q1', A1', c1', B1', d1', q2', q3', A3', c3', B3', d3', rfl, s1, s2, s3, hb⟩; have S1 := Lib.hid s1; have S2 := Lib.hid s2; have S3 := Lib.hid s3; have Z8 := Lib.hid (ZW.out.next hb); have SX := Lib.hid (SW.out.next hb); clear s1 s2 s3 hb))
  refine gen2 (φ := fun W => Code.wp _ _ _ _ W) (P := fun W => JA w x A c B d y i j k W ∧ SB gS x p A5 c5 B5 d5 W ∧ TZ w8.heap.size (w8.heap.size + 1) (w8.heap.size + 1 + 1) z1 q1' A1' c1' B1' d1' z2 q2' none 0 none 0 z3 q3' A3' c3' B3' d3' W) ⟨Z8.out.next (below_alloc (below_alloc (below_alloc (Below.refl _ _) _) _) _), SX.out.next (below_alloc (below_alloc (below_alloc (Below.refl _ _) _) _) _), TZ.new S1.out S2.out S3.out⟩ ?_
  rintro W2 ⟨hz, hs, ht⟩
  have ZX := Lib.hid hz
  have SY := Lib.hid hs
  have TX := Lib.hid ht
  clear s0 s1 s2 s3 s4 u0 u1 v0 v1 v2 Z8 SX S1 S2 S3 ZW SW
  have x0 := (blk_cell hz.h2 0).trans rfl
  have x1 := (blk_cell hz.h2 1).trans rfl
  have x2 := (blk_cell hz.h2 2).trans rfl
  have x3 := (blk_cell hz.h2 3).trans rfl
  have x4 := (blk_cell hz.h2 4).trans rfl
  have u0 := (blk_cell hz.h3 0).trans rfl
  have u1 := (blk_cell hz.h3 1).trans rfl
  have v0 := (blk_cell hz.h5 0).trans rfl
  have v1 := (blk_cell hz.h5 1).trans rfl
  have v2 := (blk_cell hz.h5 2).trans rfl
  clear hz hs ht
  generalize w8.heap.size = k12 at *
  go_upto_region 9 with (first | (go_at_call 24; refine (refPart5_calls x A c B d y.f0 y.f1 i j k _ (HR.out.below ZX.out.b) HO.out.v (by have := HSM.out; omega) HO.out.z.s3 HO.out.z.s4 HAB.out.1 HAB.out.2).mono ?_; rw [← HZ.out.1, ← HZ.out.2.1, ← HZ.out.2.2]; rintro e w9 ⟨A6, c6, B6, d6, A8, c8, B8, d8, rfl, r1, r2, r3, hb⟩; have R1 := Lib.hid r1; have R3 := Lib.hid r3; have Z9 := Lib.hid (ZX.out.next hb); have S9 := Lib.hid (SY.out.next hb); have T9 := Lib.hid (TX.out.next hb); clear r1 r2 r3 hb))
  refine gen2 (φ := fun W => Code.wp _ _ _ _ W) (P := fun W => JA w x A c B d y i j k W ∧ SB gS x p A5 c5 B5 d5 W ∧ TZ k12 (k12 + 1) (k12 + 1 + 1) z1 q1' A1' c1' B1' d1' z2 q2' none 0 none 0 z3 q3' A3' c3' B3' d3' W ∧ W.heap[w9.heap.size]? = some (.cells (gC z1 A6 c6 B6 d6) 25 (0, 0)) ∧ W.heap[w9.heap.size + 1]? = some (.cells (gC z2 none 0 none 0) 25 (0, 0)) ∧ W.heap[w9.heap.size + 1 + 1]? = some (.cells (gC z3 A8 c8 B8 d8) 25 (0, 0)) ∧ GR W z1 A6 c6 B6 d6 ∧ GR W z3 A8 c8 B8 d8)
   ⟨Z9.out.next (below_alloc (below_alloc (below_alloc (Below.refl _ _) _) _) _), S9.out.next (below_alloc (below_alloc (below_alloc (Below.refl _ _) _) _) _), T9.out.next (below_alloc (below_alloc (below_alloc (Below.refl _ _) _) _) _), blk_below (blk_new w9 _) (below_alloc (below_alloc (Below.refl _ _) _) _), blk_below (blk_newS (by simp)) (below_alloc (Below.refl _ _) _), blk_newS (by simp), R1.out.below (below_alloc (below_alloc (below_alloc (Below.refl _ _) _) _) _), R3.out.below (below_alloc (below_alloc (below_alloc (Below.refl _ _) _) _) _)⟩ ?_
  rintro W3 ⟨hz, hs, ht, h1, h2, h3, g1, g3⟩
  clear x0 x1 x2 x3 x4 u0 u1 v0 v1 v2 Z9 S9 T9 R1 R3 ZX SY TX
  have ZY := Lib.hid (And.intro hz (And.intro hs (And.intro ht (And.intro h1 (And.intro h2 (And.intro h3 (And.intro g1 g3)))))))
  have x0 := (blk_cell hz.h2 0).trans rfl
  have x1 := (blk_cell hz.h2 1).trans rfl
  have x2 := (blk_cell hz.h2 2).trans rfl
  have x3 := (blk_cell hz.h2 3).trans rfl
  have x4 := (blk_cell hz.h2 4).trans rfl
  have v0 := (blk_cell (blk_below hz.h5 (below_alloc (Below.refl W3.heap.size W3) (.cells (gC x A c B d) 25 (0, 0)))) 0).trans rfl
  clear hz hs ht h1 h2 h3 g1 g3
  generalize w9.heap.size = k15 at *
  go_upto_region 10 with fail
  have XN := Lib.hid (blk_new W3 (.cells (gC x A c B d) 25 (0, 0)))
  have BN := Lib.hid (below_alloc (Below.refl W3.heap.size W3) (.cells (gC x A c B d) 25 (0, 0)))
  have r0 := (blk_cell XN.out 0).trans rfl
  have r3 := (blk_cell XN.out 3).trans rfl
  have r4 := (blk_cell XN.out 4).trans rfl
  have t0 := blk_frozen XN.out 0
  have t3 := blk_frozen XN.out 3
  have t4 := blk_frozen XN.out 4
  go_upto_region 11 with fail
  have E5 : gC z5 none 0 none 0 = #[.int .i64 i, .int .i64 x.f1, .string x.f2, .slice none 0 0, .slice none 0 0] := by
   show #[Value.int .i64 z5.f0, .int .i64 z5.f1, .string z5.f2, .slice none z5.f3.length 0, .slice none z5.f4.length 0] = _
   rw [N5.out.1.1, N5.out.1.2, N5.out.2.2.1, N5.out.2.2.2.1, N5.out.2.2.2.2]
   rfl
  refine gen2 (φ := fun W => Code.wp _ _ _ _ W) (P := fun W => Below W3.heap.size W3 W ∧ W.heap[W3.heap.size]? = some (.cells (gC z5 none 0 none 0) 25 (0, 0))) ⟨below_alloc (Below.refl _ _) _, by rw [E5]; exact blk_new W3 _⟩ ?_
  rintro V ⟨hb, h18⟩
  have GV := Lib.hid (show G9 w x A c B d y i j k gS p A5 c5 B5 d5 k12 z1 q1' A1' c1' B1' d1' z2 q2' z3 q3' A3' c3' B3' d3' k15 A6 c6 B6 d6 A8 c8 B8 d8 W3.heap.size z5 V from ⟨ZY.out.1.next hb, ZY.out.2.1.next hb, ZY.out.2.2.1.next hb, blk_below ZY.out.2.2.2.1 hb, blk_below ZY.out.2.2.2.2.1 hb, blk_below ZY.out.2.2.2.2.2.1 hb, ZY.out.2.2.2.2.2.2.1.below hb, ZY.out.2.2.2.2.2.2.2.below hb, h18⟩)
  clear hb h18 E5 r0 r3 r4 t0 t3 t4 XN BN v0 x0 x1 x2 x3 x4 ZY
  generalize W3.heap.size = k18 at *
  have BB0 := Lib.hid (show Below V.heap.size V V.drew from (by with_reducible repeat (first | exact Below.refl _ _ | apply pw_below_drewN | apply Below.drew)))
  refine wp_region_noPanic ?_
  refine wp_region_held_drew (S := (fun w' => F9 V w x A c B d y i gS p A5 c5 B5 d5 k12 z1 q1' A1' c1' B1' d1' z2 q2' z3 q3' A3' c3' B3' d3' k15 A6 c6 B6 d6 A8 c8 B8 d8 k18 z5 w')) ?hm_b ?hS_b (fun hHeld => ?_)
  case hm_b => kernel_rfl
  case hS_b => exact G9.f GV.out BB0.out
  refine wpAnyH_take (i := 0) (oi := ?ob0) (v := ?vb0) ?hi_b0 ?k1_b0 ?k2_b0 ?k3_b0 (fun _ _ _ h => h) (Or.inl ⟨?g_b0, ?y_b0⟩) (by assumption) ?r_b0
  case hi_b0 => (simp only [List.getElem?_toArray, List.getElem?_cons_succ, List.getElem?_cons_zero]; rfl)
  case k1_b0 => kernel_rfl
  case k2_b0 => kernel_rfl
  case k3_b0 => kernel_rfl
  case g_b0 => rfl
  case y_b0 => (intro w hSw; (try dsimp only at hSw); first | (go_simp; done) | (go_simp; with_reducible rfl))
  (try simp only [Act.put, List.setIfInBounds_toArray, List.set_cons_zero, List.set_cons_succ])
  refine wpAnyH_take (i := 1) (oi := ?ob1) (v := ?vb1) ?hi_b1 ?k1_b1 ?k2_b1 ?k3_b1 (fun _ _ _ h => h) (Or.inl ⟨?g_b1, ?y_b1⟩) (by assumption) ?r_b1
  case hi_b1 => (simp only [List.getElem?_toArray, List.getElem?_cons_succ, List.getElem?_cons_zero]; rfl)
  case k1_b1 => kernel_rfl
  case k2_b1 => kernel_rfl
  case k3_b1 => kernel_rfl
  case g_b1 => rfl
  case y_b1 => (intro w hSw; (try dsimp only at hSw); first | (go_simp; done) | (go_simp; with_reducible rfl))
  (try simp only [Act.put, List.setIfInBounds_toArray, List.set_cons_zero, List.set_cons_succ])
  refine wpAnyH_ready (rs := [2]) ?k1_b2 (by simp) ?r_b2
  case k1_b2 => kernel_rfl
  refine AllReadyH.cons (o := ?ob2) ?hi_b2 (fun K hK => ?s_b2) ?m_b2
  case hi_b2 => (simp only [List.getElem?_toArray, List.getElem?_cons_succ, List.getElem?_cons_zero]; rfl)
  case m_b2 => exact AllReadyH.nil
  go_simp
  (go_at_call 8; (refine (has5_calls z1 q1' A1' c1' B1' d1' A6 c6 B6 d6 _ (GV.out.t.s1.sp.below BB0.out) (GV.out.g1.below BB0.out) ZZ.out.1).mono ?_); rintro e wb2 ⟨rfl, hb⟩; have BB2 := Lib.hid (below_step BB0.out hb); clear hb)
  (try go_wp2_with fail)
  refine hK.out _ _ (G9.f GV.out BB2.out) (fun hHeld => ?_)
  clear hK K
  (try simp only [Act.put, List.setIfInBounds_toArray, List.set_cons_zero, List.set_cons_succ])
  refine wpAnyH_take (i := 3) (oi := ?ob3) (v := ?vb3) ?hi_b3 ?k1_b3 ?k2_b3 ?k3_b3 (fun _ _ _ h => h) (Or.inl ⟨?g_b3, ?y_b3⟩) (by assumption) ?r_b3
  case hi_b3 => (simp only [List.getElem?_toArray, List.getElem?_cons_succ, List.getElem?_cons_zero]; rfl)
  case k1_b3 => kernel_rfl
  case k2_b3 => kernel_rfl
  case k3_b3 => kernel_rfl
  case g_b3 => rfl
  case y_b3 => (intro w hSw; (try dsimp only at hSw); first | (go_simp; done) | (go_simp; with_reducible rfl))
  (try simp only [Act.put, List.setIfInBounds_toArray, List.set_cons_zero, List.set_cons_succ])
  refine wpAnyH_take (i := 4) (oi := ?ob4) (v := ?vb4) ?hi_b4 ?k1_b4 ?k2_b4 ?k3_b4 (fun _ _ _ h => h) (Or.inl ⟨?g_b4, ?y_b4⟩) (by assumption) ?r_b4
  case hi_b4 => (simp only [List.getElem?_toArray, List.getElem?_cons_succ, List.getElem?_cons_zero]; rfl)
  case k1_b4 => kernel_rfl
  case k2_b4 => kernel_rfl
  case k3_b4 => kernel_rfl
  case g_b4 => rfl
  case y_b4 => (intro w hSw; (try dsimp only at hSw); first | (go_simp; done) | (go_simp; with_reducible rfl))
  (try simp only [Act.put, List.setIfInBounds_toArray, List.set_cons_zero, List.set_cons_succ])
  refine wpAnyH_take (i := 5) (oi := ?ob5) (v := ?vb5) ?hi_b5 ?k1_b5 ?k2_b5 ?k3_b5 (fun _ _ _ h => h) (Or.inl ⟨?g_b5, ?y_b5⟩) (by assumption) ?r_b5
  case hi_b5 => (simp only [List.getElem?_toArray, List.getElem?_cons_succ, List.getElem?_cons_zero]; rfl)
  case k1_b5 => kernel_rfl
  case k2_b5 => kernel_rfl
  case k3_b5 => kernel_rfl
  case g_b5 => rfl
  case y_b5 => (intro w hSw; (try dsimp only at hSw); first | (go_simp; done) | (go_simp; with_reducible rfl))
  (try simp only [Act.put, List.setIfInBounds_toArray, List.set_cons_zero, List.set_cons_succ])
  refine wpAnyH_ready (rs := [6]) ?k1_b6 (by simp) ?r_b6
  case k1_b6 => kernel_rfl
  refine AllReadyH.cons (o := ?ob6) ?hi_b6 (fun K hK => ?s_b6) ?m_b6
  case hi_b6 => (simp only [List.getElem?_toArray, List.getElem?_cons_succ, List.getElem?_cons_zero]; rfl)
  case m_b6 => exact AllReadyH.nil
  go_simp
  (go_at_call 8; (refine (has5_calls z2 q2' none 0 none 0 none 0 none 0 _ (GV.out.t.s2.sp.below BB2.out) ((nil_gr _ z2 N2.out.1 N2.out.2).toGR) ZZ.out.2.1).mono ?_); rintro e wb6 ⟨rfl, hb⟩; have BB6 := Lib.hid (below_step BB2.out hb); clear hb)
  (try go_wp2_with fail)
  refine hK.out _ _ (G9.f GV.out BB6.out) (fun hHeld => ?_)
  clear hK K
  (try simp only [Act.put, List.setIfInBounds_toArray, List.set_cons_zero, List.set_cons_succ])
  refine wpAnyH_take (i := 7) (oi := ?ob7) (v := ?vb7) ?hi_b7 ?k1_b7 ?k2_b7 ?k3_b7 (fun _ _ _ h => h) (Or.inl ⟨?g_b7, ?y_b7⟩) (by assumption) ?r_b7
  case hi_b7 => (simp only [List.getElem?_toArray, List.getElem?_cons_succ, List.getElem?_cons_zero]; rfl)
  case k1_b7 => kernel_rfl
  case k2_b7 => kernel_rfl
  case k3_b7 => kernel_rfl
  case g_b7 => rfl
  case y_b7 => (intro w hSw; (try dsimp only at hSw); first | (go_simp; done) | (go_simp; with_reducible rfl))
  (try simp only [Act.put, List.setIfInBounds_toArray, List.set_cons_zero, List.set_cons_succ])
  refine wpAnyH_take (i := 8) (oi := ?ob8) (v := ?vb8) ?hi_b8 ?k1_b8 ?k2_b8 ?k3_b8 (fun _ _ _ h => h) (Or.inl ⟨?g_b8, ?y_b8⟩) (by assumption) ?r_b8
  case hi_b8 => (simp only [List.getElem?_toArray, List.getElem?_cons_succ, List.getElem?_cons_zero]; rfl)
  case k1_b8 => kernel_rfl
  case k2_b8 => kernel_rfl
  case k3_b8 => kernel_rfl
  case g_b8 => rfl
  case y_b8 => (intro w hSw; (try dsimp only at hSw); first | (go_simp; done) | (go_simp; with_reducible rfl))
  (try simp only [Act.put, List.setIfInBounds_toArray, List.set_cons_zero, List.set_cons_succ])
  refine wpAnyH_take (i := 9) (oi := ?ob9) (v := ?vb9) ?hi_b9 ?k1_b9 ?k2_b9 ?k3_b9 (fun _ _ _ h => h) (Or.inl ⟨?g_b9, ?y_b9⟩) (by assumption) ?r_b9
  case hi_b9 => (simp only [List.getElem?_toArray, List.getElem?_cons_succ, List.getElem?_cons_zero]; rfl)
  case k1_b9 => kernel_rfl
  case k2_b9 => kernel_rfl
  case k3_b9 => kernel_rfl
  case g_b9 => rfl
  case y_b9 => (intro w hSw; (try dsimp only at hSw); first | (go_simp; done) | (go_simp; with_reducible rfl))
  (try simp only [Act.put, List.setIfInBounds_toArray, List.set_cons_zero, List.set_cons_succ])
  refine wpAnyH_take (i := 10) (oi := ?ob10) (v := ?vb10) ?hi_b10 ?k1_b10 ?k2_b10 ?k3_b10 (fun _ _ _ h => h) (Or.inl ⟨?g_b10, ?y_b10⟩) (by assumption) ?r_b10
  case hi_b10 => (simp only [List.getElem?_toArray, List.getElem?_cons_succ, List.getElem?_cons_zero]; rfl)
  case k1_b10 => kernel_rfl
  case k2_b10 => kernel_rfl
  case k3_b10 => kernel_rfl
  case g_b10 => rfl
  case y_b10 => (intro w hSw; (try dsimp only at hSw); first | (go_simp; done) | (go_simp; with_reducible rfl))
  (try simp only [Act.put, List.setIfInBounds_toArray, List.set_cons_zero, List.set_cons_succ])
  refine wpAnyH_ready (rs := [11]) ?k1_b11 (by simp) ?r_b11
  case k1_b11 => kernel_rfl
  refine AllReadyH.cons (o := ?ob11) ?hi_b11 (fun K hK => ?s_b11) ?m_b11
  case hi_b11 => (simp only [List.getElem?_toArray, List.getElem?_cons_succ, List.getElem?_cons_zero]; rfl)
  case m_b11 => exact AllReadyH.nil
  go_simp
  (go_at_call 8; (refine (has5_calls z3 q3' A3' c3' B3' d3' A8 c8 B8 d8 _ (GV.out.t.s3.sp.below BB6.out) (GV.out.g3.below BB6.out) ZZ.out.2.2).mono ?_); rintro e wb11 ⟨rfl, hb⟩; have BB11 := Lib.hid (below_step BB6.out hb); clear hb)
  (try go_wp2_with fail)
  refine hK.out _ _ (G9.f GV.out BB11.out) (fun hHeld => ?_)
  clear hK K
  (try simp only [Act.put, List.setIfInBounds_toArray, List.set_cons_zero, List.set_cons_succ])
  refine wpAnyH_take (i := 12) (oi := ?ob12) (v := ?vb12) ?hi_b12 ?k1_b12 ?k2_b12 ?k3_b12 (fun _ _ _ h => h) (Or.inl ⟨?g_b12, ?y_b12⟩) (by assumption) ?r_b12
  case hi_b12 => (simp only [List.getElem?_toArray, List.getElem?_cons_succ, List.getElem?_cons_zero]; rfl)
  case k1_b12 => kernel_rfl
  case k2_b12 => kernel_rfl
  case k3_b12 => kernel_rfl
  case g_b12 => rfl
  case y_b12 => (intro w hSw; (try dsimp only at hSw); first | (go_simp; done) | (go_simp; with_reducible rfl))
  (try simp only [Act.put, List.setIfInBounds_toArray, List.set_cons_zero, List.set_cons_succ])
  refine wpAnyH_take (i := 13) (oi := ?ob13) (v := ?vb13) ?hi_b13 ?k1_b13 ?k2_b13 ?k3_b13 (fun _ _ _ h => h) (Or.inl ⟨?g_b13, ?y_b13⟩) (by assumption) ?r_b13
  case hi_b13 => (simp only [List.getElem?_toArray, List.getElem?_cons_succ, List.getElem?_cons_zero]; rfl)
  case k1_b13 => kernel_rfl
  case k2_b13 => kernel_rfl
  case k3_b13 => kernel_rfl
  case g_b13 => rfl
  case y_b13 => (intro w hSw; (try dsimp only at hSw); first | (go_simp; done) | (go_simp; with_reducible rfl))
  (try simp only [Act.put, List.setIfInBounds_toArray, List.set_cons_zero, List.set_cons_succ])
  refine wpAnyH_take (i := 14) (oi := ?ob14) (v := ?vb14) ?hi_b14 ?k1_b14 ?k2_b14 ?k3_b14 (fun _ _ _ h => h) (Or.inl ⟨?g_b14, ?y_b14⟩) (by assumption) ?r_b14
  case hi_b14 => (simp only [List.getElem?_toArray, List.getElem?_cons_succ, List.getElem?_cons_zero]; rfl)
  case k1_b14 => kernel_rfl
  case k2_b14 => kernel_rfl
  case k3_b14 => kernel_rfl
  case g_b14 => rfl
  case y_b14 => (intro w hSw; (try dsimp only at hSw); first | (go_simp; done) | (go_simp; with_reducible rfl))
  (try simp only [Act.put, List.setIfInBounds_toArray, List.set_cons_zero, List.set_cons_succ])
  refine wpAnyH_take (i := 15) (oi := ?ob15) (v := ?vb15) ?hi_b15 ?k1_b15 ?k2_b15 ?k3_b15 (fun _ _ _ h => h) (Or.inl ⟨?g_b15, ?y_b15⟩) (by assumption) ?r_b15
  case hi_b15 => (simp only [List.getElem?_toArray, List.getElem?_cons_succ, List.getElem?_cons_zero]; rfl)
  case k1_b15 => kernel_rfl
  case k2_b15 => kernel_rfl
  case k3_b15 => kernel_rfl
  case g_b15 => rfl
  case y_b15 => (intro w hSw; (try dsimp only at hSw); first | (go_simp; done) | (go_simp; with_reducible rfl))
  (try simp only [Act.put, List.setIfInBounds_toArray, List.set_cons_zero, List.set_cons_succ])
  refine wpAnyH_take (i := 16) (oi := ?ob16) (v := ?vb16) ?hi_b16 ?k1_b16 ?k2_b16 ?k3_b16 (fun _ _ _ h => h) (Or.inl ⟨?g_b16, ?y_b16⟩) (by assumption) ?r_b16
  case hi_b16 => (simp only [List.getElem?_toArray, List.getElem?_cons_succ, List.getElem?_cons_zero]; rfl)
  case k1_b16 => kernel_rfl
  case k2_b16 => kernel_rfl
  case k3_b16 => kernel_rfl
  case g_b16 => rfl
  case y_b16 => (intro w hSw; (try dsimp only at hSw); first | (go_simp; done) | (go_simp; with_reducible rfl))
  (try simp only [Act.put, List.setIfInBounds_toArray, List.set_cons_zero, List.set_cons_succ])
  refine wpAnyH_take (i := 17) (oi := ?ob17) (v := ?vb17) ?hi_b17 ?k1_b17 ?k2_b17 ?k3_b17 (fun _ _ _ h => h) (Or.inl ⟨?g_b17, ?y_b17⟩) (by assumption) ?r_b17
  case hi_b17 => (simp only [List.getElem?_toArray, List.getElem?_cons_succ, List.getElem?_cons_zero]; rfl)
  case k1_b17 => kernel_rfl
  case k2_b17 => kernel_rfl
  case k3_b17 => kernel_rfl
  case g_b17 => rfl
  case y_b17 => (intro w hSw; (try dsimp only at hSw); first | (go_simp; done) | (go_simp; with_reducible rfl))
  (try simp only [Act.put, List.setIfInBounds_toArray, List.set_cons_zero, List.set_cons_succ])
  refine wpAnyH_take (i := 18) (oi := ?ob18) (v := ?vb18) ?hi_b18 ?k1_b18 ?k2_b18 ?k3_b18 (fun _ _ _ h => h) (Or.inl ⟨?g_b18, ?y_b18⟩) (by assumption) ?r_b18
  case hi_b18 => (simp only [List.getElem?_toArray, List.getElem?_cons_succ, List.getElem?_cons_zero]; rfl)
  case k1_b18 => kernel_rfl
  case k2_b18 => kernel_rfl
  case k3_b18 => kernel_rfl
  case g_b18 => rfl
  case y_b18 => (intro w hSw; (try dsimp only at hSw); first | (go_simp; done) | (go_simp; with_reducible rfl))
  (try simp only [Act.put, List.setIfInBounds_toArray, List.set_cons_zero, List.set_cons_succ])
  refine wpAnyH_take (i := 19) (oi := ?ob19) (v := ?vb19) ?hi_b19 ?k1_b19 ?k2_b19 ?k3_b19 (fun _ _ _ h => h) (Or.inl ⟨?g_b19, ?y_b19⟩) (by assumption) ?r_b19
  case hi_b19 => (simp only [List.getElem?_toArray, List.getElem?_cons_succ, List.getElem?_cons_zero]; rfl)
  case k1_b19 => kernel_rfl
  case k2_b19 => kernel_rfl
  case k3_b19 => kernel_rfl
  case g_b19 => rfl
  case y_b19 => (intro w hSw; (try dsimp only at hSw); first | (go_simp; done) | (go_simp; with_reducible rfl))
  (try simp only [Act.put, List.setIfInBounds_toArray, List.set_cons_zero, List.set_cons_succ])
  refine wpAnyH_take (i := 20) (oi := ?ob20) (v := ?vb20) ?hi_b20 ?k1_b20 ?k2_b20 ?k3_b20 (fun _ _ _ h => h) (Or.inl ⟨?g_b20, ?y_b20⟩) (by assumption) ?r_b20
  case hi_b20 => (simp only [List.getElem?_toArray, List.getElem?_cons_succ, List.getElem?_cons_zero]; rfl)
  case k1_b20 => kernel_rfl
  case k2_b20 => kernel_rfl
  case k3_b20 => kernel_rfl
  case g_b20 => rfl
  case y_b20 => (intro w hSw; (try dsimp only at hSw); first | (go_simp; done) | (go_simp; with_reducible rfl))
  (try simp only [Act.put, List.setIfInBounds_toArray, List.set_cons_zero, List.set_cons_succ])
  refine wpAnyH_take (i := 22) (oi := ?ob22) (v := ?vb22) ?hi_b22 ?k1_b22 ?k2_b22 ?k3_b22 (fun _ _ _ h => h) (Or.inl ⟨?g_b22, ?y_b22⟩) (by assumption) ?r_b22
  case hi_b22 => (simp only [List.getElem?_toArray, List.getElem?_cons_succ, List.getElem?_cons_zero]; rfl)
  case k1_b22 => kernel_rfl
  case k2_b22 => kernel_rfl
  case k3_b22 => kernel_rfl
  case g_b22 => rfl
  case y_b22 => (intro w hSw; (try dsimp only at hSw); first | (go_simp; done) | (go_simp; with_reducible rfl))
  (try simp only [Act.put, List.setIfInBounds_toArray, List.set_cons_zero, List.set_cons_succ])
  refine wpAnyH_take (i := 23) (oi := ?ob23) (v := ?vb23) ?hi_b23 ?k1_b23 ?k2_b23 ?k3_b23 (fun _ _ _ h => h) (Or.inl ⟨?g_b23, ?y_b23⟩) (by assumption) ?r_b23
  case hi_b23 => (simp only [List.getElem?_toArray, List.getElem?_cons_succ, List.getElem?_cons_zero]; rfl)
  case k1_b23 => kernel_rfl
  case k2_b23 => kernel_rfl
  case k3_b23 => kernel_rfl
  case g_b23 => rfl
  case y_b23 => (intro w hSw; (try dsimp only at hSw); first | (go_simp; done) | (go_simp; with_reducible rfl))
  (try simp only [Act.put, List.setIfInBounds_toArray, List.set_cons_zero, List.set_cons_succ])
  refine wpAnyH_take (i := 24) (oi := ?ob24) (v := ?vb24) ?hi_b24 ?k1_b24 ?k2_b24 ?k3_b24 (fun _ _ _ h => h) (Or.inl ⟨?g_b24, ?y_b24⟩) (by assumption) ?r_b24
  case hi_b24 => (simp only [List.getElem?_toArray, List.getElem?_cons_succ, List.getElem?_cons_zero]; rfl)
  case k1_b24 => kernel_rfl
  case k2_b24 => kernel_rfl
  case k3_b24 => kernel_rfl
  case g_b24 => rfl
  case y_b24 => (intro w hSw; (try dsimp only at hSw); first | (go_simp; done) | (go_simp; with_reducible rfl))
  (try simp only [Act.put, List.setIfInBounds_toArray, List.set_cons_zero, List.set_cons_succ])
  refine wpAnyH_take (i := 25) (oi := ?ob25) (v := ?vb25) ?hi_b25 ?k1_b25 ?k2_b25 ?k3_b25 (fun _ _ _ h => h) (Or.inl ⟨?g_b25, ?y_b25⟩) (by assumption) ?r_b25
  case hi_b25 => (simp only [List.getElem?_toArray, List.getElem?_cons_succ, List.getElem?_cons_zero]; rfl)
  case k1_b25 => kernel_rfl
  case k2_b25 => kernel_rfl
  case k3_b25 => kernel_rfl
  case g_b25 => rfl
  case y_b25 => (intro w hSw; (try dsimp only at hSw); first | (go_simp; done) | (go_simp; with_reducible rfl))
  (try simp only [Act.put, List.setIfInBounds_toArray, List.set_cons_zero, List.set_cons_succ])
  refine wpAnyH_take (i := 26) (oi := ?ob26) (v := ?vb26) ?hi_b26 ?k1_b26 ?k2_b26 ?k3_b26 (fun _ _ _ h => h) (Or.inl ⟨?g_b26, ?y_b26⟩) (by assumption) ?r_b26
  case hi_b26 => (simp only [List.getElem?_toArray, List.getElem?_cons_succ, List.getElem?_cons_zero]; rfl)
  case k1_b26 => kernel_rfl
  case k2_b26 => kernel_rfl
  case k3_b26 => kernel_rfl
  case g_b26 => rfl
  case y_b26 => (intro w hSw; (try dsimp only at hSw); first | (go_simp; done) | (go_simp; with_reducible rfl))
  (try simp only [Act.put, List.setIfInBounds_toArray, List.set_cons_zero, List.set_cons_succ])
  refine wpAnyH_take (i := 27) (oi := ?ob27) (v := ?vb27) ?hi_b27 ?k1_b27 ?k2_b27 ?k3_b27 (fun _ _ _ h => h) (Or.inl ⟨?g_b27, ?y_b27⟩) (by assumption) ?r_b27
  case hi_b27 => (simp only [List.getElem?_toArray, List.getElem?_cons_succ, List.getElem?_cons_zero]; rfl)
  case k1_b27 => kernel_rfl
  case k2_b27 => kernel_rfl
  case k3_b27 => kernel_rfl
  case g_b27 => rfl
  case y_b27 => (intro w hSw; (try dsimp only at hSw); first | (go_simp; done) | (go_simp; with_reducible rfl))
  (try simp only [Act.put, List.setIfInBounds_toArray, List.set_cons_zero, List.set_cons_succ])
  refine wpAnyH_take (i := 28) (oi := ?ob28) (v := ?vb28) ?hi_b28 ?k1_b28 ?k2_b28 ?k3_b28 (fun _ _ _ h => h) (Or.inl ⟨?g_b28, ?y_b28⟩) (by assumption) ?r_b28
  case hi_b28 => (simp only [List.getElem?_toArray, List.getElem?_cons_succ, List.getElem?_cons_zero]; rfl)
  case k1_b28 => kernel_rfl
  case k2_b28 => kernel_rfl
  case k3_b28 => kernel_rfl
  case g_b28 => rfl
  case y_b28 => (intro w hSw; (try dsimp only at hSw); first | (go_simp; done) | (go_simp; with_reducible rfl))
  (try simp only [Act.put, List.setIfInBounds_toArray, List.set_cons_zero, List.set_cons_succ])
  refine wpAnyH_ready (rs := [21]) ?k1_b21 (by simp) ?r_b21
  case k1_b21 => kernel_rfl
  refine AllReadyH.cons (o := ?ob21) ?hi_b21 (fun K hK => ?s_b21) ?m_b21
  case hi_b21 => (simp only [List.getElem?_toArray, List.getElem?_cons_succ, List.getElem?_cons_zero]; rfl)
  case m_b21 => exact AllReadyH.nil
  go_simp
  (go_at_call 25; (refine (piece_calls x p A5 c5 B5 d5 y.f0 y.f1 i _ (GV.out.s.sp.below BB11.out) HO.out.z.s2 HAB.out.1 HAB.out.2).mono ?_); rw [← HZ4.out]; rintro e wb21 ⟨p4, rfl, s4, hb⟩; have BB21 := Lib.hid (below_step BB11.out hb); have S4 := Lib.hid s4; clear hb s4)
  (try go_wp2_with fail)
  refine hK.out _ _ (G9.f GV.out BB21.out) (fun hHeld => ?_)
  clear hK K
  (try simp only [Act.put, List.setIfInBounds_toArray, List.set_cons_zero, List.set_cons_succ])
  refine wpAnyH_ready (rs := [29]) ?k1_b29 (by simp) ?r_b29
  case k1_b29 => kernel_rfl
  refine AllReadyH.cons (o := ?ob29) ?hi_b29 (fun K hK => ?s_b29) ?m_b29
  case hi_b29 => (simp only [List.getElem?_toArray, List.getElem?_cons_succ, List.getElem?_cons_zero]; rfl)
  case m_b29 => exact AllReadyH.nil
  go_simp
  (go_at_call 26; (refine (refPiece5_calls x A c B d y.f0 y.f1 i _ (okB_true HO.out.v).1 HO.out.z.s2 HAB.out.1 HAB.out.2).mono ?_); rw [← HZ4.out]; rintro e wb29 ⟨rfl, hb⟩; have BB29 := Lib.hid (below_step BB21.out hb); have S4' := Lib.hid (S4.out.below hb); clear hb)
  (try go_wp2_with fail)
  refine hK.out _ _ (G9.f GV.out BB29.out) (fun hHeld => ?_)
  clear hK K
  (try simp only [Act.put, List.setIfInBounds_toArray, List.set_cons_zero, List.set_cons_succ])
  refine wpAnyH_ready (rs := [30]) ?k1_b30 (by simp) ?r_b30
  case k1_b30 => kernel_rfl
  refine AllReadyH.cons (o := ?ob30) ?hi_b30 (fun K hK => ?s_b30) ?m_b30
  case hi_b30 => (simp only [List.getElem?_toArray, List.getElem?_cons_succ, List.getElem?_cons_zero]; rfl)
  case m_b30 => exact AllReadyH.nil
  go_simp
  (go_at_call 8; (refine (has5_calls z4 p4 none 0 none 0 none 0 none 0 _ (S4'.out) ((nil_gr _ z4 N4.out.1.1 N4.out.1.2).toGR) N4.out.2).mono ?_); rintro e wb30 ⟨rfl, hb⟩; have BB30 := Lib.hid (below_step BB29.out hb); clear hb)
  (try go_wp2_with fail)
  refine hK.out _ _ (G9.f GV.out BB30.out) (fun hHeld => ?_)
  clear hK K
  (try simp only [Act.put, List.setIfInBounds_toArray, List.set_cons_zero, List.set_cons_succ])
  refine wpAnyH_take (i := 31) (oi := ?ob31) (v := ?vb31) ?hi_b31 ?k1_b31 ?k2_b31 ?k3_b31 (fun _ _ _ h => h) (Or.inl ⟨?g_b31, ?y_b31⟩) (by assumption) ?r_b31
  case hi_b31 => (simp only [List.getElem?_toArray, List.getElem?_cons_succ, List.getElem?_cons_zero]; rfl)
  case k1_b31 => kernel_rfl
  case k2_b31 => kernel_rfl
  case k3_b31 => kernel_rfl
  case g_b31 => rfl
  case y_b31 => (intro w hSw; (try dsimp only at hSw); first | (go_simp; done) | (go_simp; with_reducible rfl))
  (try simp only [Act.put, List.setIfInBounds_toArray, List.set_cons_zero, List.set_cons_succ])
  refine wpAnyH_take (i := 32) (oi := ?ob32) (v := ?vb32) ?hi_b32 ?k1_b32 ?k2_b32 ?k3_b32 (fun _ _ _ h => h) (Or.inl ⟨?g_b32, ?y_b32⟩) (by assumption) ?r_b32
  case hi_b32 => (simp only [List.getElem?_toArray, List.getElem?_cons_succ, List.getElem?_cons_zero]; rfl)
  case k1_b32 => kernel_rfl
  case k2_b32 => kernel_rfl
  case k3_b32 => kernel_rfl
  case g_b32 => rfl
  case y_b32 => (intro w hSw; (try dsimp only at hSw); first | (go_simp; done) | (go_simp; with_reducible rfl))
  (try simp only [Act.put, List.setIfInBounds_toArray, List.set_cons_zero, List.set_cons_succ])
  refine wpAnyH_take (i := 33) (oi := ?ob33) (v := ?vb33) ?hi_b33 ?k1_b33 ?k2_b33 ?k3_b33 (fun _ _ _ h => h) (Or.inl ⟨?g_b33, ?y_b33⟩) (by assumption) ?r_b33
  case hi_b33 => (simp only [List.getElem?_toArray, List.getElem?_cons_succ, List.getElem?_cons_zero]; rfl)
  case k1_b33 => kernel_rfl
  case k2_b33 => kernel_rfl
  case k3_b33 => kernel_rfl
  case g_b33 => rfl
  case y_b33 => (intro w hSw; (try dsimp only at hSw); first | (go_simp; done) | (go_simp; with_reducible rfl))
  (try simp only [Act.put, List.setIfInBounds_toArray, List.set_cons_zero, List.set_cons_succ])
  refine wpAnyH_take (i := 34) (oi := ?ob34) (v := ?vb34) ?hi_b34 ?k1_b34 ?k2_b34 ?k3_b34 (fun _ _ _ h => h) (Or.inl ⟨?g_b34, ?y_b34⟩) (by assumption) ?r_b34
  case hi_b34 => (simp only [List.getElem?_toArray, List.getElem?_cons_succ, List.getElem?_cons_zero]; rfl)
  case k1_b34 => kernel_rfl
  case k2_b34 => kernel_rfl
  case k3_b34 => kernel_rfl
  case g_b34 => rfl
  case y_b34 => (intro w hSw; (try dsimp only at hSw); first | (go_simp; done) | (go_simp; with_reducible rfl))
  (try simp only [Act.put, List.setIfInBounds_toArray, List.set_cons_zero, List.set_cons_succ])
  refine wpAnyH_take (i := 35) (oi := ?ob35) (v := ?vb35) ?hi_b35 ?k1_b35 ?k2_b35 ?k3_b35 (fun _ _ _ h => h) (Or.inl ⟨?g_b35, ?y_b35⟩) (by assumption) ?r_b35
  case hi_b35 => (simp only [List.getElem?_toArray, List.getElem?_cons_succ, List.getElem?_cons_zero]; rfl)
  case k1_b35 => kernel_rfl
  case k2_b35 => kernel_rfl
  case k3_b35 => kernel_rfl
  case g_b35 => rfl
  case y_b35 => (intro w hSw; (try dsimp only at hSw); first | (go_simp; done) | (go_simp; with_reducible rfl))
  (try simp only [Act.put, List.setIfInBounds_toArray, List.set_cons_zero, List.set_cons_succ])
  refine wpAnyH_take (i := 37) (oi := ?ob37) (v := ?vb37) ?hi_b37 ?k1_b37 ?k2_b37 ?k3_b37 (fun _ _ _ h => h) (Or.inl ⟨?g_b37, ?y_b37⟩) (by assumption) ?r_b37
  case hi_b37 => (simp only [List.getElem?_toArray, List.getElem?_cons_succ, List.getElem?_cons_zero]; rfl)
  case k1_b37 => kernel_rfl
  case k2_b37 => kernel_rfl
  case k3_b37 => kernel_rfl
  case g_b37 => rfl
  case y_b37 => (intro w hSw; (try dsimp only at hSw); first | (go_simp; done) | (go_simp; with_reducible rfl))
  (try simp only [Act.put, List.setIfInBounds_toArray, List.set_cons_zero, List.set_cons_succ])
  refine wpAnyH_ready (rs := [36]) ?k1_b36 (by simp) ?r_b36
  case k1_b36 => kernel_rfl
  refine AllReadyH.cons (o := ?ob36) ?hi_b36 (fun K hK => ?s_b36) ?m_b36
  case hi_b36 => (simp only [List.getElem?_toArray, List.getElem?_cons_succ, List.getElem?_cons_zero]; rfl)
  case m_b36 => exact AllReadyH.nil
  go_simp
  (go_at_call 27; (refine (twin_calls x p A5 c5 B5 d5 i _).mono ?_); rw [← HZ5.out]; rintro e wb36 ⟨rfl, hb⟩; have BB36 := Lib.hid (below_step BB30.out hb); clear hb)
  (try go_wp2_with fail)
  refine hK.out _ _ (G9.f GV.out BB36.out) (fun hHeld => ?_)
  clear hK K
  (try simp only [Act.put, List.setIfInBounds_toArray, List.set_cons_zero, List.set_cons_succ])
  refine wpAnyH_ready (rs := [38]) ?k1_b38 (by simp) ?r_b38
  case k1_b38 => kernel_rfl
  refine AllReadyH.cons (o := ?ob38) ?hi_b38 (fun K hK => ?s_b38) ?m_b38
  case hi_b38 => (simp only [List.getElem?_toArray, List.getElem?_cons_succ, List.getElem?_cons_zero]; rfl)
  case m_b38 => exact AllReadyH.nil
  go_simp
  (go_at_call 8; (refine (has5_calls z5 p none 0 none 0 none 0 none 0 _ (by rw [HZ5.out]; exact twG_sp (GV.out.s.sp.below BB36.out) i) ((nil_gr _ z5 N5.out.1.1 N5.out.1.2).toGR) N5.out.2.1).mono ?_); rintro e wb38 ⟨rfl, hb⟩; have BB38 := Lib.hid (below_step BB36.out hb); clear hb)
  (try go_wp2_with fail)
  refine hK.out _ _ (G9.f GV.out BB38.out) (fun hHeld => ?_)
  clear hK K
  (try simp only [Act.put, List.setIfInBounds_toArray, List.set_cons_zero, List.set_cons_succ])
  refine wpAnyH_take (i := 39) (oi := ?ob39) (v := ?vb39) ?hi_b39 ?k1_b39 ?k2_b39 ?k3_b39 (fun _ _ _ h => h) (Or.inl ⟨?g_b39, ?y_b39⟩) (by assumption) ?r_b39
  case hi_b39 => (simp only [List.getElem?_toArray, List.getElem?_cons_succ, List.getElem?_cons_zero]; rfl)
  case k1_b39 => kernel_rfl
  case k2_b39 => kernel_rfl
  case k3_b39 => kernel_rfl
  case g_b39 => rfl
  case y_b39 => (intro w hSw; (try dsimp only at hSw); first | (go_simp; done) | (go_simp; with_reducible rfl))
  (try simp only [Act.put, List.setIfInBounds_toArray, List.set_cons_zero, List.set_cons_succ])
  refine wpAnyH_take (i := 40) (oi := ?ob40) (v := ?vb40) ?hi_b40 ?k1_b40 ?k2_b40 ?k3_b40 (fun _ _ _ h => h) (Or.inl ⟨?g_b40, ?y_b40⟩) (by assumption) ?r_b40
  case hi_b40 => (simp only [List.getElem?_toArray, List.getElem?_cons_succ, List.getElem?_cons_zero]; rfl)
  case k1_b40 => kernel_rfl
  case k2_b40 => kernel_rfl
  case k3_b40 => kernel_rfl
  case g_b40 => rfl
  case y_b40 => (intro w hSw; (try dsimp only at hSw); first | (go_simp; done) | (go_simp; with_reducible rfl))
  (try simp only [Act.put, List.setIfInBounds_toArray, List.set_cons_zero, List.set_cons_succ])
  refine wpAnyH_take (i := 41) (oi := ?ob41) (v := ?vb41) ?hi_b41 ?k1_b41 ?k2_b41 ?k3_b41 (fun _ _ _ h => h) (Or.inl ⟨?g_b41, ?y_b41⟩) (by assumption) ?r_b41
  case hi_b41 => (simp only [List.getElem?_toArray, List.getElem?_cons_succ, List.getElem?_cons_zero]; rfl)
  case k1_b41 => kernel_rfl
  case k2_b41 => kernel_rfl
  case k3_b41 => kernel_rfl
  case g_b41 => rfl
  case y_b41 => (intro w hSw; (try dsimp only at hSw); first | (go_simp; done) | (go_simp; with_reducible rfl))
  (try simp only [Act.put, List.setIfInBounds_toArray, List.set_cons_zero, List.set_cons_succ])
  refine wpAnyH_take (i := 42) (oi := ?ob42) (v := ?vb42) ?hi_b42 ?k1_b42 ?k2_b42 ?k3_b42 (fun _ _ _ h => h) (Or.inl ⟨?g_b42, ?y_b42⟩) (by assumption) ?r_b42
  case hi_b42 => (simp only [List.getElem?_toArray, List.getElem?_cons_succ, List.getElem?_cons_zero]; rfl)
  case k1_b42 => kernel_rfl
  case k2_b42 => kernel_rfl
  case k3_b42 => kernel_rfl
  case g_b42 => rfl
  case y_b42 => (intro w hSw; (try dsimp only at hSw); first | (go_simp; done) | (go_simp; with_reducible rfl))
  (try simp only [Act.put, List.setIfInBounds_toArray, List.set_cons_zero, List.set_cons_succ])
  refine wpAnyH_ready (rs := [43]) ?k1_b43 (by simp) ?r_b43
  case k1_b43 => kernel_rfl
  refine AllReadyH.cons (o := ?ob43) ?hi_b43 (fun K hK => ?s_b43) ?m_b43
  case hi_b43 => (simp only [List.getElem?_toArray, List.getElem?_cons_succ, List.getElem?_cons_zero]; rfl)
  case m_b43 => exact AllReadyH.nil
  go_simp
  (go_at_call 8; (refine (has5_calls x p A5 c5 B5 d5 A c B d _ (GV.out.s.sp.below BB38.out) (HR.out.below (below_step GV.out.z.b BB38.out)) HO.out.z).mono ?_); rintro e wb43 ⟨rfl, hb⟩; have BB43 := Lib.hid (below_step BB38.out hb); clear hb)
  (try go_wp2_with fail)
  refine hK.out _ _ (G9.f GV.out BB43.out) (fun hHeld => ?_)
  clear hK K
  (try simp only [Act.put, List.setIfInBounds_toArray, List.set_cons_zero, List.set_cons_succ])
  refine wpAnyH_take (i := 44) (oi := ?ob44) (v := ?vb44) ?hi_b44 ?k1_b44 ?k2_b44 ?k3_b44 (fun _ _ _ h => h) (Or.inl ⟨?g_b44, ?y_b44⟩) (by assumption) ?r_b44
  case hi_b44 => (simp only [List.getElem?_toArray, List.getElem?_cons_succ, List.getElem?_cons_zero]; rfl)
  case k1_b44 => kernel_rfl
  case k2_b44 => kernel_rfl
  case k3_b44 => kernel_rfl
  case g_b44 => rfl
  case y_b44 => (intro w hSw; (try dsimp only at hSw); first | (go_simp; done) | (go_simp; with_reducible rfl))
  (try simp only [Act.put, List.setIfInBounds_toArray, List.set_cons_zero, List.set_cons_succ])
  refine wpAnyH_take (i := 45) (oi := ?ob45) (v := ?vb45) ?hi_b45 ?k1_b45 ?k2_b45 ?k3_b45 (fun _ _ _ h => h) (Or.inl ⟨?g_b45, ?y_b45⟩) (by assumption) ?r_b45
  case hi_b45 => (simp only [List.getElem?_toArray, List.getElem?_cons_succ, List.getElem?_cons_zero]; rfl)
  case k1_b45 => kernel_rfl
  case k2_b45 => kernel_rfl
  case k3_b45 => kernel_rfl
  case g_b45 => rfl
  case y_b45 => (intro w hSw; (try dsimp only at hSw); first | (go_simp; done) | (go_simp; with_reducible rfl))
  (try simp only [Act.put, List.setIfInBounds_toArray, List.set_cons_zero, List.set_cons_succ])
  refine wpAnyH_done (by kernel_rfl) ?_ _
  refine NoPanic.normal ?_
  go_wp2
  go_ret
  exact ⟨rfl, below_step GV.out.z.b BB43.out⟩
end Go.Proofs.YtjphmebhofkhcaaDoor.Seg
