/- Marks: a row of sites of a call's own, before and behind the library's sort. No condition. -/
import Derived.Test.YtjphmebhofkhcaaDoorWMore
import Derived.WalkSpells
import Derived.Lib.Hide
import Derived.Shelf.SlSortCmp.WholeK
import Derived.Test.YtjphmebhofkhcaaDoorPSegAllx0
import Derived.Test.YtjphmebhofkhcaaDoorGMk1
import Derived.Test.YtjphmebhofkhcaaDoorGSort
import Derived.Test.YtjphmebhofkhcaaDoorOwn
import Derived.BigQuiet
namespace Go.Proofs.YtjphmebhofkhcaaDoor.Mk
open Go.RowKit Go.Proofs.YtjphmebhofkhcaaDoorW.PrintWords Go.Proofs.YtjphmebhofkhcaaDoorW.PrintLast Go.Proofs.YtjphmebhofkhcaaDoorW.PrintMore Go.Proofs.YtjphmebhofkhcaaDoor.PSegAll
set_option linter.unusedVariables false
set_option linter.unusedSimpArgs false
abbrev kY := k70
abbrev SY := S70
instance : Inhabited SY := ⟨z70⟩
/-- A site's two cells. -/
def encY (y : SY) : List Value := [.int .i64 y.f0, .int .i64 y.f1]
theorem encY_len (y : SY) : (encY y).length = 2 := rfl
theorem encY_one (y : SY) : ∀ v ∈ encY y, v.oneCell' = true := by
  intro v hv
  simp [encY] at hv
  rcases hv with rfl | rfl <;> rfl
theorem flat_size (d : Array SY) : (Go.Sort.flatK encY 2 d).size = d.size * 2 := by simp [Go.Sort.flatK]
theorem flat_at {d : Array SY} {j i : Nat} {y : SY} (h : d.toList[j]? = some y) (hi : i < 2) : (Go.Sort.flatK encY 2 d).toList[j * 2 + i]? = (encY y)[i]? := by
  obtain ⟨hl, e⟩ := List.getElem?_eq_some_iff.1 h
  rw [Array.length_toList] at hl
  unfold Go.Sort.flatK
  simp only [Array.toList_map, Array.toList_range, List.getElem?_map]
  rw [List.getElem?_range (by omega)]
  simp only [Option.map_some]
  have e1 : (j * 2 + i) / 2 = j := by omega
  have e2 : (j * 2 + i) % 2 = i := by omega
  rw [e1, e2, getElem!_pos d j hl]
  have e3 : d[j] = y := by rw [← e, Array.getElem_toList]
  rw [e3, getElem!_pos (encY y) i (by rw [encY_len]; exact hi), List.getElem?_eq_getElem (by rw [encY_len]; exact hi)]
theorem flat_seg {d : Array SY} {j : Nat} {y : SY} (h : d.toList[j]? = some y) : ((Go.Sort.flatK encY 2 d).toList.drop (j * 2)).take 2 = encY y := by
  apply List.ext_getElem?
  intro i
  rw [List.getElem?_take]
  split
  · rename_i hi
    rw [List.getElem?_drop, flat_at h hi]
  · rename_i hi
    rw [List.getElem?_eq_none (by rw [encY_len]; omega)]
/-- What a row of sites of a call's own holds, in the sort's words. -/
theorem holds_own {w : World} {base : Nat} {ok : Nat → Prop} {g n cap : Nat} {ys : List SY} (h : Kd.R kY 70 w base ok (.slice (some ⟨g, 0, none⟩) n cap) ys) : Go.Sort.HoldsK encY 2 w g 0 ys.toArray ∧ g < w.heap.size ∧ n = ys.length := by
  have hn := (Kd.R_reads' h).1
  obtain ⟨_, inner, ⟨hl, ho⟩, hr⟩ := h
  rcases ho with ⟨hv, _⟩ | ⟨g', cap', cur, hv, hb, hh, hnc, hcm, hcs, ht⟩
  · cases hv
  injection hv with ha _ hc
  injection ha with ha
  injection ha with ha
  subst ha; subst hc
  refine ⟨fun t ht2 => ?_, blk_lt hh, hn⟩
  rw [flat_size] at ht2
  simp only [List.size_toArray] at ht2
  refine ⟨?_, blk_frozen hh _⟩
  obtain ⟨y, hy⟩ : ∃ y, ys[t / 2]? = some y := ⟨_, List.getElem?_eq_getElem (by omega)⟩
  have hM := k70_openM (hr.2 (t / 2) y hy)
  have e1 : (inner.drop (t / 2 * 2)).take 2 = encY y := hM
  have e2 : inner[t]? = (encY y)[t % 2]? := by
    rw [← e1, List.getElem?_take, if_pos (by omega), List.getElem?_drop, show t / 2 * 2 + t % 2 = t by omega]
  have e3 : (Go.Sort.flatK encY 2 ys.toArray).toList[t]? = (encY y)[t % 2]? := by
    have := flat_at (d := ys.toArray) (j := t / 2) (i := t % 2) (y := y) (by simpa using hy) (by omega)
    rwa [show t / 2 * 2 + t % 2 = t by omega] at this
  rw [blk_cell hh, Nat.zero_add]
  have e4 : cur[t]? = inner[t]? := by
    rw [← ht, List.getElem?_take, if_pos (by have : kY.sz = 2 := rfl; rw [this]; omega), Array.getElem?_toList]
  rw [e4, e2, ← e3, getElem!_pos (Go.Sort.flatK encY 2 ys.toArray) t (by rw [flat_size]; simp; omega), Array.getElem?_toList, Array.getElem?_eq_getElem (by rw [flat_size]; simp; omega)]
  rfl
theorem heap_sorted (w : World) (g m : Nat) (d : Array SY) (os : Array Obj) (k : Nat) (hk : k < w.heap.size) : (sortWorldK encY 2 w g 0 m d os).heap[k]? = if g = k then (w.heap[k]?).map (Go.Sort.onCells (Go.Sort.putCells id 0 (Go.Sort.flatK encY 2 d))) else w.heap[k]? := by
  unfold sortWorldK Go.Sort.putRowK Go.Sort.putRow Go.Sort.mapBlock Go.Sort.grow Go.Sort.ahead
  dsimp only
  rw [Array.getElem?_append_left (by rw [Array.size_modify]; exact hk), Array.getElem?_modify]
theorem size_sorted (w : World) (g m : Nat) (d : Array SY) (os : Array Obj) : w.heap.size ≤ (sortWorldK encY 2 w g 0 m d os).heap.size := by
  unfold sortWorldK Go.Sort.putRowK Go.Sort.putRow Go.Sort.mapBlock Go.Sort.grow Go.Sort.ahead
  dsimp only
  rw [Array.size_append, Array.size_modify]
  omega
/-- Behind the sort the row is the call's own still, and holds what the sort has laid. -/
theorem own_sorted {w : World} {base : Nat} {ok : Nat → Prop} {g n cap : Nat} {ys : List SY} (h : Kd.R kY 70 w base ok (.slice (some ⟨g, 0, none⟩) n cap) ys) (m : Nat) (d : Array SY) (os : Array Obj) (hs : d.size = ys.length) :
    Kd.R kY 70 (sortWorldK encY 2 w g 0 m d os) base ok (.slice (some ⟨g, 0, none⟩) n cap) d.toList ∧ w.grownBy (sortWorldK encY 2 w g 0 m d os) (some g) := by
  have hn := (Kd.R_reads' h).1
  obtain ⟨hok, inner, ⟨hl, ho⟩, hr⟩ := h
  rcases ho with ⟨hv, _⟩ | ⟨g', cap', cur, hv, hb, hh, hnc, hcm, hcs, ht⟩
  · cases hv
  injection hv with ha _ hc
  injection ha with ha
  injection ha with ha
  subst ha; subst hc
  have k2 : kY.sz = 2 := rfl
  rw [k2] at hcs
  have hd : d.toList.length = n := by rw [Array.length_toList, hs, hn]
  have hb2 := heap_sorted w g m d os g (blk_lt hh)
  rw [if_pos rfl, hh] at hb2
  simp only [Option.map_some, Go.Sort.onCells] at hb2
  have hsz : (Go.Sort.putCells id 0 (Go.Sort.flatK encY 2 d) cur).size = cap * 2 := by unfold Go.Sort.putCells; rw [Array.size_mapIdx, hcs]
  have htk : (Go.Sort.putCells id 0 (Go.Sort.flatK encY 2 d) cur).toList.take (n * 2) = (Go.Sort.flatK encY 2 d).toList := by
    apply List.ext_getElem?
    intro t
    rw [List.getElem?_take]
    split
    · rename_i hlt
      have hF : t < (Go.Sort.flatK encY 2 d).size := by rw [flat_size]; omega
      have hC : t < cur.size := by rw [hcs]; have := Nat.mul_le_mul_right 2 hnc; omega
      rw [Array.getElem?_toList, Array.getElem?_toList]
      unfold Go.Sort.putCells
      rw [Array.getElem?_mapIdx, Array.getElem?_eq_getElem hC, Array.getElem?_eq_getElem hF]
      simp only [Option.map_some]
      rw [if_pos ⟨Nat.zero_le _, by omega⟩, Nat.sub_zero, getElem!_pos _ t hF]
      rfl
    · rename_i hlt
      rw [List.getElem?_eq_none (by rw [Array.length_toList, flat_size]; omega)]
  refine ⟨⟨hok, (Go.Sort.flatK encY 2 d).toList, ⟨by rw [Array.length_toList, flat_size, hd, k2, hs, hn], .inr ⟨g, cap, _, by rw [hd], hb, hb2, by rw [hd]; omega, hcm, by rw [k2]; exact hsz, by rw [hd, k2]; exact htk⟩⟩, ?_⟩, ⟨rfl, rfl, rfl, size_sorted w g m d os, fun k hk hne => ?_⟩⟩
  · refine ⟨by rw [Array.length_toList, flat_size, hd, k2, hs, hn], fun j p hp => ?_⟩
    have e : ((Go.Sort.flatK encY 2 d).toList.drop (j * kY.sz)).take kY.sz = [.int .i64 p.f0, .int .i64 p.f1] := flat_seg hp
    rw [e]
    exact k70_mkM _ _ _ _
  · rw [heap_sorted w g m d os k hk, if_neg (fun e => hne (by rw [e]))]
end Go.Proofs.YtjphmebhofkhcaaDoor.Mk
/- Marks: the walk of compare (with all that it lays), and the library's sort of sites by it. Conditions: fewer than 2^62 sites. -/
namespace Go.Proofs.YtjphmebhofkhcaaDoor.Mk
open Go.RowKit Go.Proofs.YtjphmebhofkhcaaDoorW.PrintWords Go.Proofs.YtjphmebhofkhcaaDoorW.PrintLast Go.Proofs.YtjphmebhofkhcaaDoorW.PrintMore Go.Proofs.YtjphmebhofkhcaaDoor.PSegAll Go.Proofs.YtjphmebhofkhcaaDoor.Pure
set_option linter.unusedVariables false
set_option linter.unusedSimpArgs false
/-- Only draws, and new blocks. -/
def GF (w w' : World) : Prop := ∃ q os, w' = Go.Sort.grow (w.drewN q) os
theorem GF.refl (w : World) : GF w w := ⟨0, #[], by rw [Go.Sort.grow_empty]; rfl⟩
theorem GF.drewN {w W : World} (h : GF w W) (n : Nat) : GF w (W.drewN n) := by
  obtain ⟨q, os, rfl⟩ := h
  exact ⟨q + n, os, by unfold Go.Sort.grow World.drewN; simp [Nat.add_assoc]⟩
theorem GF.drew {w W : World} (h : GF w W) : GF w W.drew := h.drewN 1
theorem GF.alloc {w W : World} (h : GF w W) (o : Obj) : GF w (W.alloc o) := by
  obtain ⟨q, os, rfl⟩ := h
  exact ⟨q, os ++ #[o], by rw [Go.Sort.alloc_eq_grow, Go.Sort.grow_grow]⟩
theorem GF.below {w W : World} (h : GF w W) : Below w.heap.size w W := by
  obtain ⟨q, os, rfl⟩ := h
  refine ⟨rfl, rfl, rfl, ?_, fun k hk => ?_⟩
  · unfold Go.Sort.grow World.drewN
    simp
  · unfold Go.Sort.grow World.drewN
    dsimp only
    rw [Array.getElem?_append_left hk]
theorem GF.drawn {w W W' : World} (h : GF w W) (hd : Drawn0 W W') : GF w W' := by
  obtain ⟨m, rfl⟩ := hd.out
  exact h.drewN m
instance (x y : SY) : Decidable (siteLt x y) := by unfold siteLt; infer_instance
theorem gen2 {φ P : World → Prop} {w : World} (h : P w) (k : ∀ W, P W → φ W) : φ w := k w h
theorem below_drawnM {w w' : World} (h : Drawn0 w w') : Below w.heap.size w w' := by obtain ⟨m, rfl⟩ := h.out; exact pw_below_drewN (Below.refl _ _) m
/-- How two sites compare. -/
def cfY (x y : SY) : Int := if mrCmp x.f1 y.f1 = 0 then mrCmp x.f0 y.f0 else mrCmp x.f1 y.f1
theorem ltY (x y : SY) : ltOf cfY x y = decide (siteLt x y) := by
  unfold ltOf cfY siteLt mrCmp
  by_cases h1 : x.f1 < y.f1
  · simp [h1]
  · by_cases h2 : x.f1 > y.f1
    · have : ¬ (x.f1 = y.f1) := by omega
      simp [h1, h2, this]
    · have e : x.f1 = y.f1 := by omega
      by_cases h3 : x.f0 < y.f0
      · simp [e, h3]
      · by_cases h4 : x.f0 > y.f0
        · simp [e, h3, h4]
        · simp [e, h3, h4]
theorem swoY : Go.Sort.SWO (ltOf cfY) where
  irrefl x := by rw [ltY]; simpa using siteLt_irr x
  trans x y z h1 h2 := by rw [ltY] at *; simp at *; exact siteLt_trans h1 h2
  ntrans x y z h1 h2 := by rw [ltY] at *; simp at *; unfold siteLt at *; omega
abbrev P4 (w0 : World) (g2 g3 : Nat) (a b c d : Value) (w' : World) : Prop := w'.cell? ⟨g2, 0, none⟩ = some a ∧ w'.cell? ⟨g2, 1, none⟩ = some b ∧ w'.cell? ⟨g3, 0, none⟩ = some c ∧ w'.cell? ⟨g3, 1, none⟩ = some d
theorem P4.next {w0 W W' : World} {g2 g3 : Nat} {a b c d : Value} (h : P4 w0 g2 g3 a b c d W) (hb : Below W.heap.size W W') : P4 w0 g2 g3 a b c d W' := ⟨pw_cell_below hb h.1, pw_cell_below hb h.2.1, pw_cell_below hb h.2.2.1, pw_cell_below hb h.2.2.2⟩
theorem blk_newM {w : World} {o : Obj} {g : Nat} (h : g = w.heap.size) : (w.alloc o).heap[g]? = some o := by rw [h]; exact blk_new w o
theorem C_two {W : World} {g : Nat} {a b : Int} (h : W.heap[g]? = some (.cells #[.int .i64 a, .int .i64 b] 3 (0, 0))) : Kd.C (Kd.int .i64) W (some ⟨g, 0, none⟩) [a, b].length [a, b] := by
  refine ⟨rfl, by (show (2 : Nat) ≤ 9223372036854775807); decide, fun _ => ⟨_, rfl, fun j p hj => ?_⟩⟩
  refine ⟨[.int .i64 p], rfl, rfl, fun i u hu => ?_⟩
  rw [add_plain]
  cases i with
  | succ i => simp at hu
  | zero =>
    simp only [List.getElem?_cons_zero, Option.some.injEq] at hu
    subst hu
    rw [blk_cell h]
    have e2 : j * (Kd.int .i64).sz = j := Nat.mul_one j
    simp only [Nat.zero_add, Nat.add_zero, e2]
    rcases j with _ | _ | j
    · simpa using hj
    · simpa using hj
    · simp at hj
set_option maxRecDepth 1000000 in
set_option maxHeartbeats 4000000 in
theorem compare_calls (x y : SY) (w : World) : Calls Tryd.prog 64 #[.agg #[.int .i64 x.f0, .int .i64 x.f1], .agg #[.int .i64 y.f0, .int .i64 y.f1]] w fun e w' => e = .returned (.int .i64 (cfY x y)) ∧ GF w w' := by
  obtain ⟨ko, hko⟩ := Go.Proofs.YtjphmebhofkhcaaDoorW.PrintWords.Ev.rounds (mr_or (mrCmp x.f1 y.f1) (mrCmp x.f0 y.f0))
  have KO := Lib.hid hko
  have ecf : (if mrCmp x.f1 y.f1 = 0 then mrCmp x.f0 y.f0 else mrCmp x.f1 y.f1) = cfY x y := rfl
  rw [ecf] at KO
  clear hko ecf
  have C1 := Lib.hid (mr_compare1 x.f1 y.f1)
  have C2 := Lib.hid (mr_compare1 x.f0 y.f0)
  generalize mrCmp x.f1 y.f1 = m1 at KO C1
  generalize mrCmp x.f0 y.f0 = m2 at KO C2
  generalize cfY x y = r at KO ⊢
  go_enter Tryd.func64, Tryd.ntmps64
  go_upto_region 1 with fail
  refine gen2 (φ := fun W => Code.wp _ _ _ _ W) (P := fun W => GF w W ∧ P4 w w.heap.size (w.heap.size + 1) (.int .i64 x.f0) (.int .i64 x.f1) (.int .i64 y.f0) (.int .i64 y.f1) W) ⟨((GF.refl w).alloc _).alloc _, by simp, by simp, by simp, by simp⟩ ?_
  rintro V ⟨hg, hp⟩
  have GV := Lib.hid hg
  have PV := Lib.hid hp
  clear hg hp
  refine wp_region_noPanic ?_
  refine wp_region_held_drew (S := fun w' => P4 w w.heap.size (w.heap.size + 1) (.int .i64 x.f0) (.int .i64 x.f1) (.int .i64 y.f0) (.int .i64 y.f1) w') ?hm_r ?hS_r (fun hHeld => ?_)
  case hm_r => kernel_rfl
  case hS_r => exact P4.next PV.out (by with_reducible repeat (first | exact Below.refl _ _ | apply pw_below_drewN | apply Below.drew | apply below_alloc))
  refine wpAnyH_take (i := 0) (oi := ?or0) (v := ?vr0) ?hi_r0 ?k1_r0 ?k2_r0 ?k3_r0 (fun _ _ _ h => h) (Or.inl ⟨?g_r0, ?y_r0⟩) (by assumption) ?r_r0
  case hi_r0 => (simp only [List.getElem?_toArray, List.getElem?_cons_succ, List.getElem?_cons_zero]; rfl)
  case k1_r0 => kernel_rfl
  case k2_r0 => kernel_rfl
  case k3_r0 => kernel_rfl
  case g_r0 => rfl
  case y_r0 => (intro w hSw; (try dsimp only at hSw); first | (go_simp; done) | (go_simp; with_reducible rfl))
  (try simp only [Act.put, List.setIfInBounds_toArray, List.set_cons_zero, List.set_cons_succ])
  refine wpAnyH_take (i := 1) (oi := ?or1) (v := ?vr1) ?hi_r1 ?k1_r1 ?k2_r1 ?k3_r1 (fun _ _ _ h => h) (Or.inl ⟨?g_r1, ?y_r1⟩) (by assumption) ?r_r1
  case hi_r1 => (simp only [List.getElem?_toArray, List.getElem?_cons_succ, List.getElem?_cons_zero]; rfl)
  case k1_r1 => kernel_rfl
  case k2_r1 => kernel_rfl
  case k3_r1 => kernel_rfl
  case g_r1 => rfl
  case y_r1 => (intro w hSw; (try dsimp only at hSw); first | (go_simp; done) | (go_simp; with_reducible rfl))
  (try simp only [Act.put, List.setIfInBounds_toArray, List.set_cons_zero, List.set_cons_succ])
  refine wpAnyH_take (i := 2) (oi := ?or2) (v := ?vr2) ?hi_r2 ?k1_r2 ?k2_r2 ?k3_r2 (fun _ _ _ h => h) (Or.inl ⟨?g_r2, ?y_r2⟩) (by assumption) ?r_r2
  case hi_r2 => (simp only [List.getElem?_toArray, List.getElem?_cons_succ, List.getElem?_cons_zero]; rfl)
  case k1_r2 => kernel_rfl
  case k2_r2 => kernel_rfl
  case k3_r2 => kernel_rfl
  case g_r2 => rfl
  case y_r2 => (intro w hSw; (try dsimp only at hSw); first | (go_simp; done) | (go_simp; with_reducible rfl))
  (try simp only [Act.put, List.setIfInBounds_toArray, List.set_cons_zero, List.set_cons_succ])
  refine wpAnyH_take (i := 3) (oi := ?or3) (v := ?vr3) ?hi_r3 ?k1_r3 ?k2_r3 ?k3_r3 (fun _ _ _ h => h) (Or.inl ⟨?g_r3, ?y_r3⟩) (by assumption) ?r_r3
  case hi_r3 => (simp only [List.getElem?_toArray, List.getElem?_cons_succ, List.getElem?_cons_zero]; rfl)
  case k1_r3 => kernel_rfl
  case k2_r3 => kernel_rfl
  case k3_r3 => kernel_rfl
  case g_r3 => rfl
  case y_r3 => (intro w hSw; (try dsimp only at hSw); first | (go_simp; done) | (go_simp; with_reducible rfl))
  (try simp only [Act.put, List.setIfInBounds_toArray, List.set_cons_zero, List.set_cons_succ])
  refine wpAnyH_take (i := 5) (oi := ?or5) (v := ?vr5) ?hi_r5 ?k1_r5 ?k2_r5 ?k3_r5 (fun _ _ _ h => h) (Or.inl ⟨?g_r5, ?y_r5⟩) (by assumption) ?r_r5
  case hi_r5 => (simp only [List.getElem?_toArray, List.getElem?_cons_succ, List.getElem?_cons_zero]; rfl)
  case k1_r5 => kernel_rfl
  case k2_r5 => kernel_rfl
  case k3_r5 => kernel_rfl
  case g_r5 => rfl
  case y_r5 => (intro w hSw; (try dsimp only at hSw); first | (go_simp; done) | (go_simp; with_reducible rfl))
  (try simp only [Act.put, List.setIfInBounds_toArray, List.set_cons_zero, List.set_cons_succ])
  refine wpAnyH_take (i := 6) (oi := ?or6) (v := ?vr6) ?hi_r6 ?k1_r6 ?k2_r6 ?k3_r6 (fun _ _ _ h => h) (Or.inl ⟨?g_r6, ?y_r6⟩) (by assumption) ?r_r6
  case hi_r6 => (simp only [List.getElem?_toArray, List.getElem?_cons_succ, List.getElem?_cons_zero]; rfl)
  case k1_r6 => kernel_rfl
  case k2_r6 => kernel_rfl
  case k3_r6 => kernel_rfl
  case g_r6 => rfl
  case y_r6 => (intro w hSw; (try dsimp only at hSw); first | (go_simp; done) | (go_simp; with_reducible rfl))
  (try simp only [Act.put, List.setIfInBounds_toArray, List.set_cons_zero, List.set_cons_succ])
  refine wpAnyH_take (i := 7) (oi := ?or7) (v := ?vr7) ?hi_r7 ?k1_r7 ?k2_r7 ?k3_r7 (fun _ _ _ h => h) (Or.inl ⟨?g_r7, ?y_r7⟩) (by assumption) ?r_r7
  case hi_r7 => (simp only [List.getElem?_toArray, List.getElem?_cons_succ, List.getElem?_cons_zero]; rfl)
  case k1_r7 => kernel_rfl
  case k2_r7 => kernel_rfl
  case k3_r7 => kernel_rfl
  case g_r7 => rfl
  case y_r7 => (intro w hSw; (try dsimp only at hSw); first | (go_simp; done) | (go_simp; with_reducible rfl))
  (try simp only [Act.put, List.setIfInBounds_toArray, List.set_cons_zero, List.set_cons_succ])
  refine wpAnyH_take (i := 8) (oi := ?or8) (v := ?vr8) ?hi_r8 ?k1_r8 ?k2_r8 ?k3_r8 (fun _ _ _ h => h) (Or.inl ⟨?g_r8, ?y_r8⟩) (by assumption) ?r_r8
  case hi_r8 => (simp only [List.getElem?_toArray, List.getElem?_cons_succ, List.getElem?_cons_zero]; rfl)
  case k1_r8 => kernel_rfl
  case k2_r8 => kernel_rfl
  case k3_r8 => kernel_rfl
  case g_r8 => rfl
  case y_r8 => (intro w hSw; (try dsimp only at hSw); first | (go_simp; done) | (go_simp; with_reducible rfl))
  (try simp only [Act.put, List.setIfInBounds_toArray, List.set_cons_zero, List.set_cons_succ])
  refine wpAnyH_ready (rs := [4]) ?k1_r4 (by simp) ?r_r4
  case k1_r4 => kernel_rfl
  refine AllReadyH.cons (o := ?or4) ?hi_r4 (fun K hK => ?s_r4) ?m_r4
  case hi_r4 => (simp only [List.getElem?_toArray, List.getElem?_cons_succ, List.getElem?_cons_zero]; rfl)
  case m_r4 => exact AllReadyH.nil
  go_simp
  (go_at_call 86; refine (cmp_Compare_int.calls _ _ m1 _ C1.out).mono ?_; rintro e w1 ⟨rfl, hd⟩)
  have GV2 := Lib.hid (GF.drawn (w := w) (W := _) (by with_reducible repeat (first | exact GV.out | apply GF.drewN | apply GF.drew)) hd)
  replace PV := Lib.hid (P4.next PV.out (by first | exact below_drawnM hd | exact below_step (Below.drew (Below.refl _ _)) (below_drawnM hd)))
  clear hd GV
  refine hK.out _ _ PV.out (fun hHeld => ?_)
  clear hK K
  (try simp only [Act.put, List.setIfInBounds_toArray, List.set_cons_zero, List.set_cons_succ])
  refine wpAnyH_ready (rs := [9]) ?k1_r9 (by simp) ?r_r9
  case k1_r9 => kernel_rfl
  refine AllReadyH.cons (o := ?or9) ?hi_r9 (fun K hK => ?s_r9) ?m_r9
  case hi_r9 => (simp only [List.getElem?_toArray, List.getElem?_cons_succ, List.getElem?_cons_zero]; rfl)
  case m_r9 => exact AllReadyH.nil
  go_simp
  (go_at_call 86; refine (cmp_Compare_int.calls _ _ m2 _ C2.out).mono ?_; rintro e w2 ⟨rfl, hd⟩)
  have GV3 := Lib.hid (GV2.out.drawn hd)
  replace PV := Lib.hid (P4.next PV.out (below_drawnM hd))
  clear hd GV2
  refine hK.out _ _ PV.out (fun hHeld => ?_)
  clear hK K
  (try simp only [Act.put, List.setIfInBounds_toArray, List.set_cons_zero, List.set_cons_succ])
  refine wpAnyH_ready (rs := [10]) ?k1_r10 (by simp) ?r_r10
  case k1_r10 => kernel_rfl
  refine AllReadyH.cons (o := ?or10) ?hi_r10 (fun K hK => ?s_r10) ?m_r10
  case hi_r10 => (simp only [List.getElem?_toArray, List.getElem?_cons_succ, List.getElem?_cons_zero]; rfl)
  case m_r10 => exact AllReadyH.nil
  go_simp
  have HC := Lib.hid (C_two (blk_newM (w := w2) (o := .cells #[.int .i64 m1, .int .i64 m2] 3) rfl))
  have GV4 := Lib.hid (GV3.out.alloc (.cells #[.int .i64 m1, .int .i64 m2] 3))
  replace PV := Lib.hid (P4.next PV.out (below_alloc (Below.refl _ _) (.cells #[.int .i64 m1, .int .i64 m2] 3)))
  refine hK.out _ _ PV.out (fun hHeld => ?_)
  clear hK K GV3
  (try simp only [Act.put, List.setIfInBounds_toArray, List.set_cons_zero, List.set_cons_succ])
  refine wpAnyH_ready (rs := [11]) ?k1_r11 (by simp) ?r_r11
  case k1_r11 => kernel_rfl
  refine AllReadyH.cons (o := ?or11) ?hi_r11 (fun K hK => ?s_r11) ?m_r11
  case hi_r11 => (simp only [List.getElem?_toArray, List.getElem?_cons_succ, List.getElem?_cons_zero]; rfl)
  case m_r11 => exact AllReadyH.nil
  go_simp
  (go_at_call 85; refine (cmp_Or_int.calls ko _ 2 [m1, m2] r _ HC.out (Nat.le_refl 2) KO.out).mono ?_; rintro e w3 ⟨rfl, hd⟩)
  have GV5 := Lib.hid (GV4.out.drawn hd)
  replace PV := Lib.hid (P4.next PV.out (below_drawnM hd))
  clear hd GV4
  refine hK.out _ _ PV.out (fun hHeld => ?_)
  clear hK K
  (try simp only [Act.put, List.setIfInBounds_toArray, List.set_cons_zero, List.set_cons_succ])
  refine wpAnyH_take (i := 12) (oi := ?or12) (v := ?vr12) ?hi_r12 ?k1_r12 ?k2_r12 ?k3_r12 (fun _ _ _ h => h) (Or.inl ⟨?g_r12, ?y_r12⟩) (by assumption) ?r_r12
  case hi_r12 => (simp only [List.getElem?_toArray, List.getElem?_cons_succ, List.getElem?_cons_zero]; rfl)
  case k1_r12 => kernel_rfl
  case k2_r12 => kernel_rfl
  case k3_r12 => kernel_rfl
  case g_r12 => rfl
  case y_r12 => (intro w hSw; (try dsimp only at hSw); first | (go_simp; done) | (go_simp; with_reducible rfl))
  (try simp only [Act.put, List.setIfInBounds_toArray, List.set_cons_zero, List.set_cons_succ])
  refine wpAnyH_done (by kernel_rfl) ?_ _
  refine NoPanic.normal ?_
  go_wp2
  go_ret
  exact ⟨rfl, GV5.out⟩
end Go.Proofs.YtjphmebhofkhcaaDoor.Mk
/- Marks: the library's sort of a row of sites of a call's own: the same sites, in order. Conditions: fewer than 2^62 sites. -/
namespace Go.Proofs.YtjphmebhofkhcaaDoor.Mk
open Go.RowKit Go.Proofs.YtjphmebhofkhcaaDoorW.PrintWords Go.Proofs.YtjphmebhofkhcaaDoorW.PrintLast Go.Proofs.YtjphmebhofkhcaaDoorW.PrintMore Go.Proofs.YtjphmebhofkhcaaDoor.PSegAll Go.Proofs.YtjphmebhofkhcaaDoor.Pure
set_option linter.unusedVariables false
set_option linter.unusedSimpArgs false
theorem eg_cmp : ∀ args w, (callFunc 64 args).run Tryd.prog w = .ok (.enter 64 args) w := fun args w => by kernel_rfl
set_option maxRecDepth 100000 in
set_option maxHeartbeats 800000 in
theorem ins_nil (f : Value) (w : World) : Calls Tryd.prog 110 #[.slice none 0 0, .int .i64 0, .int .i64 0, f] w fun e w' => e = .returned (.tuple #[]) ∧ Below w.heap.size w w' := by
  go_enter Tryd.func110, Tryd.ntmps110
  go_wp2
  go_loopw [8] (fun s wr => s = .int .i64 1 ∧ Hid (Below w.heap.size w wr)) (fun _ _ => 0)
  case atStart => exact ⟨rfl, Lib.hid (Below.refl _ _)⟩
  case round =>
    obtain ⟨rfl, BW⟩ := hrel
    go_wp2
    go_end0
    exact ⟨rfl, BW.out⟩
set_option maxRecDepth 100000 in
set_option maxHeartbeats 800000 in
theorem pdq_nil (f : Value) (n : Int) (w : World) : Calls Tryd.prog 102 #[.slice none 0 0, .int .i64 0, .int .i64 0, .int .i64 n, f] w fun e w' => e = .returned (.tuple #[]) ∧ Below w.heap.size w w' := by
  go_enter Tryd.func102, Tryd.ntmps102
  go_wp2
  go_loopw [1, 2, 3] (fun s1 s2 s3 wr => s1 = .int .i64 0 ∧ s2 = .int .i64 0 ∧ s3 = .int .i64 n ∧ Hid (Below w.heap.size w wr)) (fun _ _ _ _ => 0)
  case atStart => exact ⟨rfl, rfl, rfl, Lib.hid (Below.refl _ _)⟩
  case round =>
    obtain ⟨rfl, rfl, rfl, BW⟩ := hrel
    go_wp2_with fail
    (go_at_call 110; refine (ins_nil f _).mono ?_; rintro e w1 ⟨rfl, hb1⟩)
    have B1 := Lib.hid (below_step BW.out hb1)
    clear hb1 BW
    go_wp2
    refine bodyPost_ret (results_none rfl _ _ _) rfl ?_
    exact ⟨rfl, B1.out⟩
set_option maxRecDepth 100000 in
set_option maxHeartbeats 800000 in
theorem sort_nil (f : Value) (w : World) : Calls Tryd.prog 87 #[.slice none 0 0, f] w fun e w' => e = .returned (.tuple #[]) ∧ Below w.heap.size w w' := by
  have hl : ∀ W : World, Calls Tryd.prog 103 #[.int .u64 0] W fun e w' => e = .returned (.int .i64 (Lib.bitLen 0 : Nat)) ∧ w' = W := fun W => by
    have h := Any.bits_Len (Go.Proofs.SlLaysF0.n15.bits (P := Tryd.prog) (ρ := Tryd.sortY_ren) { Tryd.sortY with }) 0 W (by omega) (by omega)
    exact h
  generalize ((Lib.bitLen 0 : Nat) : Int) = bl at hl
  go_enter Tryd.func87, Tryd.ntmps87
  go_wp2_with fail
  (go_at_call 103; refine (hl _).mono ?_; rintro e w1 ⟨rfl, rfl⟩)
  go_wp2_with fail
  (go_at_call 102; refine (pdq_nil f bl _).mono ?_; rintro e w2 ⟨rfl, hb2⟩)
  have B2 := Lib.hid hb2
  clear hb2
  go_wp2
  go_end0
  exact ⟨rfl, B2.out⟩
/-- In order: none is ahead of one that is less. -/
def SortedY (l : List SY) : Prop := l.Pairwise fun a b => ¬ siteLt b a
def RetSort (v : Value) (ys : List SY) (base : Nat) (ok : Nat → Prop) (w : World) (e : Ending) (w' : World) : Prop := ∃ zs, e = .returned (.tuple #[]) ∧ zs.Perm ys ∧ SortedY zs ∧ Kd.R kY 70 w' base ok v zs ∧ w.grownBy w' v.ownBlock
theorem sort_calls (v : Value) (ys : List SY) (base : Nat) (ok : Nat → Prop) (w : World) (h : Kd.R kY 70 w base ok v ys) (hl : ys.length < 4611686018427387904) :
    Calls Tryd.prog 87 #[v, .func (.func 64) #[] #[]] w (RetSort v ys base ok w) := by
  have hf := h
  obtain ⟨_, inner, ⟨_, ho⟩, _⟩ := hf
  rcases ho with ⟨hv, h0⟩ | ⟨g, cap, cur, hv, _⟩
  · subst hv
    obtain rfl := List.length_eq_zero_iff.1 h0
    refine (sort_nil _ w).mono ?_
    rintro e w' ⟨rfl, hb⟩
    exact ⟨[], rfl, List.Perm.refl _, List.Pairwise.nil, Kd.R_below h hb, grown_of_below hb _⟩
  · subst hv
    obtain ⟨hH, hg, hn⟩ := holds_own h
    have hc := AnyQ.slices_SortFunc (P := Tryd.prog) (ρ := Tryd.sortY_ren) Tryd.sortY 2 Tryd.isAgg70 Tryd.sizeOf70 encY encY_len encY_one cfY swoY 64 #[] g 0 cap ys.toArray w eg_cmp (fun m os dk _ x y => compare_calls x y _) hH hg (by simpa using hl)
    refine Calls.mono (show Calls Tryd.prog 87 #[.slice (some ⟨g, 0, none⟩) ys.length cap, .func (.func 64) #[] #[]] w _ from hc) ?_
    rintro e w' ⟨rfl, d, m, os, hp, hs, rfl⟩
    obtain ⟨hsz, _, hperm⟩ := hp
    simp only [List.size_toArray] at hsz hs
    obtain ⟨r1, r2⟩ := own_sorted h m d os hsz
    refine ⟨d.toList, rfl, ?_, ?_, r1, r2⟩
    · have e1 : (d.extract 0 ys.toArray.size).toList = d.toList := by simp [← hsz]
      have e2 : (ys.toArray.extract 0 ys.toArray.size).toList = ys := by simp
      rw [e1, e2] at hperm
      exact hperm
    · unfold SortedY
      rw [List.pairwise_iff_getElem]
      intro i j hi hj hij
      have hj' : j < ys.length := by rw [← hsz]; simpa using hj
      have := hs i j (Nat.zero_le _) hij hj'
      rw [ltY, getElem!_pos d j (by omega), getElem!_pos d i (by omega)] at this
      simpa using this
end Go.Proofs.YtjphmebhofkhcaaDoor.Mk
/- Marks: the walk of slices.Compact at a row of sites of a call's own. Conditions: at most 2^40 sites. -/
namespace Go.Proofs.YtjphmebhofkhcaaDoor.Mk
open Go.RowKit Go.Proofs.YtjphmebhofkhcaaDoorOwn Go.Proofs.YtjphmebhofkhcaaDoorW.PrintWords Go.Proofs.YtjphmebhofkhcaaDoorW.PrintLast Go.Proofs.YtjphmebhofkhcaaDoorW.PrintMore Go.Proofs.YtjphmebhofkhcaaDoor.PSegAll Go.Proofs.YtjphmebhofkhcaaDoor.Pure
set_option linter.unusedVariables false
set_option linter.unusedSimpArgs false
instance : DecidableEq SY := fun a b => if h : a.f0 = b.f0 ∧ a.f1 = b.f1 then isTrue (by cases a; cases b; simp only at h; rw [h.1, h.2]) else isFalse (fun e => h (by rw [e]; exact ⟨rfl, rfl⟩))
/-- The first j, without those that are like the one ahead of them. -/
def ddT (l : List SY) : Nat → List SY
  | 0 => []
  | j + 1 => match l[j]? with
    | none => ddT l j
    | some x => if 0 < j ∧ l[j - 1]? = some x then ddT l j else ddT l j ++ [x]
theorem ddT_same {l : List SY} {j : Nat} {x : SY} (h0 : 0 < j) (h : l[j]? = some x) (h1 : l[j - 1]? = some x) : ddT l (j + 1) = ddT l j := by simp only [ddT, h]; rw [if_pos ⟨h0, h1⟩]
theorem ddT_more {l : List SY} {j : Nat} {x : SY} (h : l[j]? = some x) (h1 : 0 < j → l[j - 1]? ≠ some x) : ddT l (j + 1) = ddT l j ++ [x] := by simp only [ddT, h]; rw [if_neg (fun k => h1 k.1 k.2)]
theorem ddT_mem (l : List SY) : ∀ j z, z ∈ ddT l j ↔ z ∈ l.take j
  | 0, z => by simp [ddT]
  | j + 1, z => by
    have ih := ddT_mem l j z
    cases hx : l[j]? with
    | none =>
      have e : l.take (j + 1) = l.take j := by rw [List.getElem?_eq_none_iff] at hx; rw [List.take_of_length_le (by omega), List.take_of_length_le hx]
      simp only [ddT, hx]
      rw [e, ih]
    | some x =>
      obtain ⟨hl, e⟩ := List.getElem?_eq_some_iff.1 hx
      rw [List.take_succ_eq_append_getElem hl, e, List.mem_append, List.mem_singleton, ← ih]
      by_cases c : 0 < j ∧ l[j - 1]? = some x
      · rw [ddT_same c.1 hx c.2]
        constructor
        · exact fun h => .inl h
        · rintro (h | rfl)
          · exact h
          · rw [ih, List.mem_iff_getElem?]
            exact ⟨j - 1, by rw [List.getElem?_take, if_pos (by omega)]; exact c.2⟩
      · rw [ddT_more hx (fun h0 h1 => c ⟨h0, h1⟩)]
        simp
/-- Of a sorted row: strictly in order, and the last one is the last. -/
theorem ddT_sorted {l : List SY} (h : SortedY l) : ∀ j, j ≤ l.length → (ddT l j).Pairwise siteLt ∧ ∀ z ∈ ddT l j, ∀ x, 0 < j → l[j - 1]? = some x → ¬ siteLt x z
  | 0, _ => by simp [ddT]
  | j + 1, hj => by
    obtain ⟨i1, i2⟩ := ddT_sorted h j (by omega)
    have hx : l[j]? = some l[j] := List.getElem?_eq_getElem (by omega)
    have le : ∀ z ∈ l.take j, ¬ siteLt l[j] z := by
      intro z hz
      obtain ⟨k, hk⟩ := List.mem_iff_getElem?.1 hz
      rw [List.getElem?_take] at hk
      split at hk
      · rename_i hkj
        obtain ⟨hl, e⟩ := List.getElem?_eq_some_iff.1 hk
        have := (List.pairwise_iff_getElem.1 h) k j hl (by omega) hkj
        rw [e] at this
        exact this
      · cases hk
    by_cases c : 0 < j ∧ l[j - 1]? = some l[j]
    · rw [ddT_same c.1 hx c.2]
      refine ⟨i1, fun z hz x _ hx2 => ?_⟩
      rw [Nat.add_sub_cancel, hx] at hx2
      rw [← Option.some.inj hx2]
      exact le z ((ddT_mem l j z).1 hz)
    · rw [ddT_more hx (fun h0 h1 => c ⟨h0, h1⟩)]
      refine ⟨List.pairwise_append.2 ⟨i1, List.pairwise_singleton _ _, fun z hz y hy => ?_⟩, fun z hz x _ hx2 => ?_⟩
      · rw [List.mem_singleton] at hy
        subst hy
        have n1 := le z ((ddT_mem l j z).1 hz)
        rcases siteLt_total z l[j] with k1 | k1 | k1
        · exact k1
        · exfalso
          rcases Nat.eq_zero_or_pos j with h0 | h0
          · subst h0
            simp [ddT] at hz
          · have hp : l[j - 1]? = some l[j - 1] := List.getElem?_eq_getElem (by omega)
            have n2 := i2 z hz _ h0 hp
            have n3 : ¬ siteLt l[j] l[j - 1] := (List.pairwise_iff_getElem.1 h) (j - 1) j (by omega) (by omega) (by omega)
            rw [k1] at n2
            rcases siteLt_total l[j - 1] l[j] with k2 | k2 | k2
            · exact n2 k2
            · exact c ⟨h0, by rw [hp, k2]⟩
            · exact n3 k2
        · exact absurd k1 n1
      · rw [Nat.add_sub_cancel, hx] at hx2
        rw [← Option.some.inj hx2]
        rcases List.mem_append.1 hz with hz | hz
        · exact le z ((ddT_mem l j z).1 hz)
        · rw [List.mem_singleton] at hz
          rw [hz]
          exact siteLt_irr _
theorem ddT_norm {l : List SY} (h : SortedY l) : ddT l l.length = normY l := normY_uniq (ddT_sorted h _ (Nat.le_refl _)).1 (fun z => by rw [ddT_mem, List.take_length])
theorem normY_perm {l r : List SY} (h : l.Perm r) : normY l = normY r := normY_uniq (normY_ok l).1 (fun z => by rw [(normY_ok l).2, h.mem_iff])
theorem at_Y {w : World} {A : Option Addr} {n : Nat} {ys : List SY} (h : Kd.C kY w A n ys) {j : Nat} {y : SY} (hx : ys[j]? = some y) (hj : j < n) : ∃ ad, A = some ad ∧ w.cell? (ad.add (j * 2)) = some (.int .i64 y.f0) ∧ w.cell? ⟨(ad.add (j * 2)).block, (ad.add (j * 2)).off + 1, none⟩ = some (.int .i64 y.f1) := by
  have e2 : rd_T70 ys (j : Int) = y := by unfold rd_T70; rw [Int.toNat_natCast, List.getD_eq_getElem?_getD, hx]; rfl
  obtain ⟨ad, e, h0, h1⟩ := at_T70 h (j : Int) (by omega) (by omega)
  rw [e2, Int.toNat_natCast] at h0 h1
  exact ⟨ad, e, h0, h1⟩
/-- The cells of one element of a row of the call's own. -/
theorem own_at {W : World} {base : Nat} {ok : Nat → Prop} {g n c : Nat} {ys : List SY} (h : Kd.R kY 70 W base ok (.slice (some ⟨g, 0, none⟩) n c) ys) {j : Nat} {y : SY} (hx : ys[j]? = some y) : W.cell? ⟨g, j * 2, none⟩ = some (.int .i64 y.f0) ∧ W.cell? ⟨g, j * 2 + 1, none⟩ = some (.int .i64 y.f1) := by
  have hr := Kd.R_reads' h
  obtain ⟨ad, e0, y0, y1⟩ := at_Y hr.2.2 hx (List.getElem?_eq_some_iff.1 hx).1
  cases e0
  rw [add_plain] at y0 y1
  simp only [Nat.zero_add] at y0 y1
  exact ⟨y0, y1⟩
theorem own_fr {W : World} {base : Nat} {ok : Nat → Prop} {g n c : Nat} {ys : List SY} (h : Kd.R kY 70 W base ok (.slice (some ⟨g, 0, none⟩) n c) ys) (k : Nat) : W.frozen? ⟨g, k, none⟩ = false := by
  obtain ⟨iu, ou⟩ := Kd.R_own h
  obtain ⟨cu, hcu⟩ := own_typed ou g rfl
  exact blk_frozen hcu _
/-- A site written into a row of the call's own. -/
theorem own_set {W : World} {base : Nat} {g n c : Nat} {ys : List SY} (h : Kd.R kY 70 W base (fun _ => True) (.slice (some ⟨g, 0, none⟩) n c) ys) {i : Nat} (hi : i < n) (x : SY) :
    Kd.R kY 70 ((W.setCell ⟨g, i * 2, none⟩ (.int .i64 x.f0)).setCell ⟨g, i * 2 + 1, none⟩ (.int .i64 x.f1)) base (fun _ => True) (.slice (some ⟨g, 0, none⟩) n c) (ys.set i x) ∧ W.grownBy ((W.setCell ⟨g, i * 2, none⟩ (.int .i64 x.f0)).setCell ⟨g, i * 2 + 1, none⟩ (.int .i64 x.f1)) (some g) := by
  have hn := (Kd.R_reads' h).1
  obtain ⟨y, hy⟩ : ∃ y, ys[i]? = some y := ⟨_, List.getElem?_eq_getElem (by omega)⟩
  obtain ⟨y0, y1⟩ := own_at h hy
  have hcc : ∀ j u, ([.int .i64 y.f0, .int .i64 y.f1] : List Value)[j]? = some u → W.cell? ⟨g, (i : Int).toNat * kY.sz + j, none⟩ = some u := by
    intro j u hu
    have e : (i : Int).toNat * kY.sz = i * 2 := by rw [Int.toNat_natCast]; rfl
    rw [e]
    rcases j with _ | _ | j
    · simp at hu; rw [← hu]; exact y0
    · simp at hu; rw [← hu]; exact y1
    · simp at hu
  have hs := Kd.R_seg (j := 0) (seg := [.int .i64 x.f0, .int .i64 x.f1]) (c := [.int .i64 y.f0, .int .i64 y.f1]) h (i : Int) (by omega) (by omega) rfl hcc (show (2 : Nat) ≤ 2 from Nat.le_refl _) (x' := x) (okp := fun k => True ∧ k ≠ g) (k70_mkM _ _ _ _) (fun _ h => h)
  have e : W.setCells g ((i : Int).toNat * kY.sz + 0) [.int .i64 x.f0, .int .i64 x.f1] = (W.setCell ⟨g, i * 2, none⟩ (.int .i64 x.f0)).setCell ⟨g, i * 2 + 1, none⟩ (.int .i64 x.f1) := by rw [Int.toNat_natCast]; rfl
  rw [e, Int.toNat_natCast] at hs
  exact hs
end Go.Proofs.YtjphmebhofkhcaaDoor.Mk
/- Marks: the walk of slices.Compact at a row of sites of a call's own. Conditions: at most 2^40 sites. -/
namespace Go.Proofs.YtjphmebhofkhcaaDoor.Mk
open Go.RowKit Go.Proofs.YtjphmebhofkhcaaDoorOwn Go.Proofs.YtjphmebhofkhcaaDoorW.PrintWords Go.Proofs.YtjphmebhofkhcaaDoorW.PrintLast Go.Proofs.YtjphmebhofkhcaaDoorW.PrintMore Go.Proofs.YtjphmebhofkhcaaDoor.PSegAll Go.Proofs.YtjphmebhofkhcaaDoor.Pure
set_option linter.unusedVariables false
set_option linter.unusedSimpArgs false
def cntM : Value → Nat
  | .int _ i => i.toNat
  | _ => 0
/-- A row of the call's own, and what it was. -/
structure CmZ (w : World) (base g n c : Nat) (cur : List SY) (W : World) : Prop where
  row : Kd.R kY 70 W base (fun _ => True) (.slice (some ⟨g, 0, none⟩) n c) cur
  grew : w.grownBy W (some g)
theorem CmZ.next {w W W' : World} {base g n c : Nat} {cur : List SY} (h : CmZ w base g n c cur W) (hb : Below W.heap.size W W') : CmZ w base g n c cur W' := ⟨Kd.R_below h.row hb, World.grownBy.trans h.grew (grown_of_below hb _)⟩
theorem CmZ.set {w W : World} {base g n c : Nat} {cur : List SY} (h : CmZ w base g n c cur W) {i : Nat} (hi : i < n) (x : SY) : CmZ w base g n c (cur.set i x) ((W.setCell ⟨g, i * 2, none⟩ (.int .i64 x.f0)).setCell ⟨g, i * 2 + 1, none⟩ (.int .i64 x.f1)) := ⟨(own_set h.row hi x).1, World.grownBy.trans h.grew (own_set h.row hi x).2⟩
abbrev Q4c (g a b : Nat) (u0 u1 v0 v1 : Value) (w' : World) : Prop := w'.cell? ⟨g, a, none⟩ = some u0 ∧ w'.cell? ⟨g, a + 1, none⟩ = some u1 ∧ w'.cell? ⟨g, b, none⟩ = some v0 ∧ w'.cell? ⟨g, b + 1, none⟩ = some v1
theorem Q4c.next {W W' : World} {g a b : Nat} {u0 u1 v0 v1 : Value} (h : Q4c g a b u0 u1 v0 v1 W) (hb : Below W.heap.size W W') : Q4c g a b u0 u1 v0 v1 W' := ⟨pw_cell_below hb h.1, pw_cell_below hb h.2.1, pw_cell_below hb h.2.2.1, pw_cell_below hb h.2.2.2⟩
theorem infoY : (Tryd.prog.info? 70).map (fun i => (i.zero, i.size, i.bytes)) = some (some (.agg #[.int .i64 0, .int .i64 0]), 2, 16) := by kernel_rfl
theorem infoY2 : ∃ i, Tryd.prog.info? 70 = some i ∧ i.size = 2 := by
  obtain ⟨i, h1, h2⟩ := Option.map_eq_some_iff.1 infoY
  simp only [Prod.mk.injEq] at h2
  exact ⟨i, h1, h2.2.1⟩
theorem cutTo (g n c i : Nat) (hi : i ≤ n) (hnc : n ≤ c) (W : World) : (Instr.slice 23 (.slice (some ⟨g, 0, none⟩) n c) none (some (.int .i64 (i : Int))) none).run Tryd.prog W = .ok (.slice (some ⟨g, 0, none⟩) i c) W := by
  obtain ⟨i5, hi5, hs5⟩ := infoY2
  have := cut_to (P := Tryd.prog) 23 70 .i64 Tryd.underlying23 hi5 (some ⟨g, 0, none⟩) n c (i : Int) (by omega) (by omega) hnc W
  rw [Int.toNat_natCast] at this
  exact this
set_option maxRecDepth 100000 in
theorem cutFrom (g n c i : Nat) (hi : i ≤ n) (W : World) : (Instr.slice 23 (.slice (some ⟨g, 0, none⟩) n c) (some (.int .i64 (i : Int))) none none).run Tryd.prog W = .ok (.slice (if c = i then some ⟨g, 0, none⟩ else some ⟨g, i * 2, none⟩) (n - i) (c - i)) W := by
  obtain ⟨i5, hi5, hs5⟩ := infoY2
  have := cut_from (P := Tryd.prog) 23 70 .i64 Tryd.underlying23 hi5 2 hs5 (some ⟨g, 0, none⟩) n c (i : Int) (by omega) (by omega) W
  rw [Int.toNat_natCast] at this
  rw [this]
  congr 2
  split <;> simp [add_plain]
theorem get_dropM {cur l : List SY} {i j : Nat} (h : cur.drop i = l.drop i) (hij : i ≤ j) : cur[j]? = l[j]? := by
  have h1 : (cur.drop i)[j - i]? = (l.drop i)[j - i]? := by rw [h]
  rwa [List.getElem?_drop, List.getElem?_drop, show i + (j - i) = j by omega] at h1
/-- What holds all along the inner loop. -/
structure InZ (w : World) (base g c : Nat) (l : List SY) (i j : Nat) (cur : List SY) (W : World) : Prop where
  len : cur.length = l.length
  got : cur.take i = ddT l j
  rest : cur.drop (j - 1) = l.drop (j - 1)
  z : CmZ w base g l.length c cur W
theorem take_set_M {cur : List SY} {i : Nat} {x : SY} (h : i < cur.length) : (cur.set i x).take (i + 1) = cur.take i ++ [x] := by
  rw [List.take_succ_eq_append_getElem (by rw [List.length_set]; exact h), List.getElem_set_self, List.take_set_of_le (Nat.le_refl _)]
def RetCm (l : List SY) (base : Nat) (v : Value) (w : World) (e : Ending) (w' : World) : Prop := ∃ v', e = .returned v' ∧ Kd.R kY 70 w' base (fun _ => True) v' (ddT l l.length) ∧ w.grownBy w' v.ownBlock
theorem ddT_one (l : List SY) (h : l.length < 2) : ddT l l.length = l := by
  match l, h with
  | [], _ => rfl
  | [x], _ => rfl
set_option maxRecDepth 1000000 in
set_option maxHeartbeats 8000000 in
theorem compact_calls (v : Value) (l : List SY) (base : Nat) (w : World) (h : Kd.R kY 70 w base (fun _ => True) v l) (hl : l.length ≤ 1099511627776) : Calls Tryd.prog 88 #[v] w (RetCm l base v w) := by
  have HR := Lib.hid h
  obtain ⟨A, c, rfl⟩ := Kd.R_slice h
  by_cases h2 : l.length < 2
  · have d1 : decide ((l.length : Int) < 2) = true := by simp; omega
    have E := Lib.hid (ddT_one l h2)
    clear h
    go_enter Tryd.func88, Tryd.ntmps88
    go_wp2
    go_ret
    exact ⟨_, rfl, by rw [E.out]; exact HR.out, grown_of_below (Below.refl _ _) _⟩
  · have d1 : decide ((l.length : Int) < 2) = false := by simp; omega
    obtain ⟨g, cap, he, hbase, hgl, _⟩ := Kd.R_form h (by omega)
    injection he with e1 e2 e3
    subst e1; subst e3
    have C0 := Lib.hid (show CmZ w base g l.length c l w from ⟨h, grown_of_below (Below.refl _ _) _⟩)
    have D1 : Hid (ddT l 1 = l.take 1) := Lib.hid (by
      obtain ⟨x, hx⟩ : ∃ x, l[0]? = some x := ⟨_, List.getElem?_eq_getElem (by omega)⟩
      rw [ddT_more hx (fun h => absurd h (Nat.lt_irrefl 0)), List.take_one]
      simp [ddT, List.head?_eq_getElem?, hx])
    have HC : Hid (l.length ≤ c) := Lib.hid (by have := (Kd.R_reads' h).2.1; omega)
    clear h e2 hbase hgl HR
    go_enter Tryd.func88, Tryd.ntmps88
    go_wp2
    go_loopw [3] (fun s3 wr => ∃ k : Nat, 1 ≤ k ∧ k ≤ l.length ∧ s3 = .int .i64 (k : Int) ∧ Hid (ddT l k = l.take k) ∧ Hid (CmZ w base g l.length c l wr)) (fun s3 _ => l.length - cntM s3)
    case atStart => exact ⟨1, Nat.le_refl _, by omega, rfl, D1, C0⟩
    case round =>
      obtain ⟨k, hk1, hk2, rfl, DK, CW⟩ := hrel
      by_cases hlt : k < l.length
      · have d2 : decide ((k : Int) < (l.length : Int)) = true := by simp; omega
        have b1 : (0 : Int) ≤ (k : Int) := by omega
        have b2 : (k : Int) < (l.length : Int) := by omega
        have w1_ : IntKind.i64.wrap ((k : Int) + 1) = (k : Int) + 1 := IntWalk.i64_in _ (by omega)
        obtain ⟨y, hy⟩ : ∃ y, l[k]? = some y := ⟨_, List.getElem?_eq_getElem hlt⟩
        obtain ⟨p, hp⟩ : ∃ p, l[k - 1]? = some p := ⟨_, List.getElem?_eq_getElem (by omega)⟩
        obtain ⟨y0, y1⟩ := own_at CW.out.row hy
        obtain ⟨p0, p1⟩ := own_at CW.out.row hp
        obtain ⟨j, hj⟩ : ∃ j, j = k - 1 := ⟨_, rfl⟩
        have w2_ : IntKind.i64.wrap ((k : Int) - 1) = (j : Int) := by rw [show (k : Int) - 1 = (j : Int) by omega]; exact IntWalk.i64_in _ (by omega)
        have b3 : (0 : Int) ≤ (j : Int) := by omega
        have b4 : (j : Int) < (l.length : Int) := by omega
        rw [← hj] at hp p0 p1
        have HY := Lib.hid hy
        have HP := Lib.hid hp
        have HJ := Lib.hid hj
        clear hy hp hj
        obtain ⟨a0, ha0⟩ : ∃ a, a = y.f0 := ⟨_, rfl⟩
        obtain ⟨a1, ha1⟩ : ∃ a, a = y.f1 := ⟨_, rfl⟩
        obtain ⟨c0, hc0⟩ : ∃ a, a = p.f0 := ⟨_, rfl⟩
        obtain ⟨c1, hc1⟩ : ∃ a, a = p.f1 := ⟨_, rfl⟩
        rw [← ha0] at y0
        rw [← ha1] at y1
        rw [← hc0] at p0
        rw [← hc1] at p1
        have EA := Lib.hid (And.intro ha0 (And.intro ha1 (And.intro hc0 hc1)))
        clear ha0 ha1 hc0 hc1
        by_cases q0 : a0 = c0
        · subst q0
          by_cases q1 : a1 = c1
          · subst q1
            have EQ := Lib.hid (show y = p by obtain ⟨z0, z1, z2, z3⟩ := EA.out; cases y; cases p; simp only at z0 z1 z2 z3; rw [← z0, ← z1, ← z2, ← z3])
            clear EA
            go_upto_region 6 with (fail)
            refine wp_region_noPanic ?_
            refine wp_region_held_drew (S := fun w' => Q4c g (k * 2) (j * 2) (.int .i64 a0) (.int .i64 a1) (.int .i64 a0) (.int .i64 a1) w') ?hm_ra ?hS_ra (fun hHeld => ?_)
            case hm_ra => kernel_rfl
            case hS_ra => exact Q4c.next ⟨y0, y1, p0, p1⟩ (by with_reducible repeat (first | exact Below.refl _ _ | apply pw_below_drewN | apply Below.drew | apply below_alloc))
            refine wpAnyH_take (i := 0) (oi := ?ora0) (v := ?vra0) ?hi_ra0 ?k1_ra0 ?k2_ra0 ?k3_ra0 (fun _ _ _ h => h) (Or.inl ⟨?g_ra0, ?y_ra0⟩) (by assumption) ?r_ra0
            case hi_ra0 => (simp only [List.getElem?_toArray, List.getElem?_cons_succ, List.getElem?_cons_zero]; rfl)
            case k1_ra0 => kernel_rfl
            case k2_ra0 => kernel_rfl
            case k3_ra0 => kernel_rfl
            case g_ra0 => rfl
            case y_ra0 => (intro w hSw; (try dsimp only at hSw); first | (go_simp; done) | (go_simp; with_reducible rfl))
            (try simp only [Act.put, List.setIfInBounds_toArray, List.set_cons_zero, List.set_cons_succ])
            refine wpAnyH_take (i := 1) (oi := ?ora1) (v := ?vra1) ?hi_ra1 ?k1_ra1 ?k2_ra1 ?k3_ra1 (fun _ _ _ h => h) (Or.inl ⟨?g_ra1, ?y_ra1⟩) (by assumption) ?r_ra1
            case hi_ra1 => (simp only [List.getElem?_toArray, List.getElem?_cons_succ, List.getElem?_cons_zero]; rfl)
            case k1_ra1 => kernel_rfl
            case k2_ra1 => kernel_rfl
            case k3_ra1 => kernel_rfl
            case g_ra1 => rfl
            case y_ra1 => (intro w hSw; (try dsimp only at hSw); first | (go_simp; done) | (go_simp; with_reducible rfl))
            (try simp only [Act.put, List.setIfInBounds_toArray, List.set_cons_zero, List.set_cons_succ])
            refine wpAnyH_take (i := 2) (oi := ?ora2) (v := ?vra2) ?hi_ra2 ?k1_ra2 ?k2_ra2 ?k3_ra2 (fun _ _ _ h => h) (Or.inl ⟨?g_ra2, ?y_ra2⟩) (by assumption) ?r_ra2
            case hi_ra2 => (simp only [List.getElem?_toArray, List.getElem?_cons_succ, List.getElem?_cons_zero]; rfl)
            case k1_ra2 => kernel_rfl
            case k2_ra2 => kernel_rfl
            case k3_ra2 => kernel_rfl
            case g_ra2 => rfl
            case y_ra2 => (intro w hSw; (try dsimp only at hSw); first | (go_simp; done) | (go_simp; with_reducible rfl))
            (try simp only [Act.put, List.setIfInBounds_toArray, List.set_cons_zero, List.set_cons_succ])
            refine wpAnyH_take (i := 3) (oi := ?ora3) (v := ?vra3) ?hi_ra3 ?k1_ra3 ?k2_ra3 ?k3_ra3 (fun _ _ _ h => h) (Or.inl ⟨?g_ra3, ?y_ra3⟩) (by assumption) ?r_ra3
            case hi_ra3 => (simp only [List.getElem?_toArray, List.getElem?_cons_succ, List.getElem?_cons_zero]; rfl)
            case k1_ra3 => kernel_rfl
            case k2_ra3 => kernel_rfl
            case k3_ra3 => kernel_rfl
            case g_ra3 => rfl
            case y_ra3 => (intro w hSw; (try dsimp only at hSw); first | (go_simp; done) | (go_simp; with_reducible rfl))
            (try simp only [Act.put, List.setIfInBounds_toArray, List.set_cons_zero, List.set_cons_succ])
            refine wpAnyH_take (i := 4) (oi := ?ora4) (v := ?vra4) ?hi_ra4 ?k1_ra4 ?k2_ra4 ?k3_ra4 (fun _ _ _ h => h) (Or.inl ⟨?g_ra4, ?y_ra4⟩) (by assumption) ?r_ra4
            case hi_ra4 => (simp only [List.getElem?_toArray, List.getElem?_cons_succ, List.getElem?_cons_zero]; rfl)
            case k1_ra4 => kernel_rfl
            case k2_ra4 => kernel_rfl
            case k3_ra4 => kernel_rfl
            case g_ra4 => rfl
            case y_ra4 => (intro w hSw; (try dsimp only at hSw); first | (go_simp; done) | (go_simp; with_reducible rfl))
            (try simp only [Act.put, List.setIfInBounds_toArray, List.set_cons_zero, List.set_cons_succ])
            refine wpAnyH_take (i := 5) (oi := ?ora5) (v := ?vra5) ?hi_ra5 ?k1_ra5 ?k2_ra5 ?k3_ra5 (fun _ _ _ h => h) (Or.inl ⟨?g_ra5, ?y_ra5⟩) (by assumption) ?r_ra5
            case hi_ra5 => (simp only [List.getElem?_toArray, List.getElem?_cons_succ, List.getElem?_cons_zero]; rfl)
            case k1_ra5 => kernel_rfl
            case k2_ra5 => kernel_rfl
            case k3_ra5 => kernel_rfl
            case g_ra5 => rfl
            case y_ra5 => (intro w hSw; (try dsimp only at hSw); first | (go_simp; done) | (go_simp; with_reducible rfl))
            (try simp only [Act.put, List.setIfInBounds_toArray, List.set_cons_zero, List.set_cons_succ])
            refine wpAnyH_take (i := 6) (oi := ?ora6) (v := ?vra6) ?hi_ra6 ?k1_ra6 ?k2_ra6 ?k3_ra6 (fun _ _ _ h => h) (Or.inl ⟨?g_ra6, ?y_ra6⟩) (by assumption) ?r_ra6
            case hi_ra6 => (simp only [List.getElem?_toArray, List.getElem?_cons_succ, List.getElem?_cons_zero]; rfl)
            case k1_ra6 => kernel_rfl
            case k2_ra6 => kernel_rfl
            case k3_ra6 => kernel_rfl
            case g_ra6 => rfl
            case y_ra6 => (intro w hSw; (try dsimp only at hSw); first | (go_simp; done) | (go_simp; with_reducible rfl))
            (try simp only [Act.put, List.setIfInBounds_toArray, List.set_cons_zero, List.set_cons_succ])
            refine wpAnyH_take (i := 7) (oi := ?ora7) (v := ?vra7) ?hi_ra7 ?k1_ra7 ?k2_ra7 ?k3_ra7 (fun _ _ _ h => h) (Or.inl ⟨?g_ra7, ?y_ra7⟩) (by assumption) ?r_ra7
            case hi_ra7 => (simp only [List.getElem?_toArray, List.getElem?_cons_succ, List.getElem?_cons_zero]; rfl)
            case k1_ra7 => kernel_rfl
            case k2_ra7 => kernel_rfl
            case k3_ra7 => kernel_rfl
            case g_ra7 => rfl
            case y_ra7 => (intro w hSw; (try dsimp only at hSw); first | (go_simp; done) | (go_simp; with_reducible rfl))
            (try simp only [Act.put, List.setIfInBounds_toArray, List.set_cons_zero, List.set_cons_succ])
            refine wpAnyH_take (i := 8) (oi := ?ora8) (v := ?vra8) ?hi_ra8 ?k1_ra8 ?k2_ra8 ?k3_ra8 (fun _ _ _ h => h) (Or.inl ⟨?g_ra8, ?y_ra8⟩) (by assumption) ?r_ra8
            case hi_ra8 => (simp only [List.getElem?_toArray, List.getElem?_cons_succ, List.getElem?_cons_zero]; rfl)
            case k1_ra8 => kernel_rfl
            case k2_ra8 => kernel_rfl
            case k3_ra8 => kernel_rfl
            case g_ra8 => rfl
            case y_ra8 => (intro w hSw; (try dsimp only at hSw); first | (go_simp; done) | (go_simp; with_reducible rfl))
            (try simp only [Act.put, List.setIfInBounds_toArray, List.set_cons_zero, List.set_cons_succ])
            refine wpAnyH_take (i := 9) (oi := ?ora9) (v := ?vra9) ?hi_ra9 ?k1_ra9 ?k2_ra9 ?k3_ra9 (fun _ _ _ h => h) (Or.inl ⟨?g_ra9, ?y_ra9⟩) (by assumption) ?r_ra9
            case hi_ra9 => (simp only [List.getElem?_toArray, List.getElem?_cons_succ, List.getElem?_cons_zero]; rfl)
            case k1_ra9 => kernel_rfl
            case k2_ra9 => kernel_rfl
            case k3_ra9 => kernel_rfl
            case g_ra9 => rfl
            case y_ra9 => (intro w hSw; (try dsimp only at hSw); first | (go_simp; done) | (go_simp; with_reducible rfl))
            (try simp only [Act.put, List.setIfInBounds_toArray, List.set_cons_zero, List.set_cons_succ])
            refine wpAnyH_done (by kernel_rfl) ?_ _
            refine NoPanic.normal ?_
            clear y0 y1 p0 p1 hHeld
            refine gen2 (φ := fun W => Exit.then _ _ Exit.normal _ W) (P := fun W => Below wr.heap.size wr W) (by with_reducible repeat (first | exact Below.refl _ _ | apply pw_below_drewN | apply Below.drew)) ?_
            rintro V hV
            have C1 := Lib.hid (CW.out.next hV)
            clear hV CW
            have S0 : Hid (l.take k = ddT l (k + 1)) := Lib.hid (by rw [ddT_same (by have := HJ.out; omega) HY.out (by rw [← HJ.out, HP.out, EQ.out]), DK.out])
            have hf0 : ∀ W, (Instr.slice 23 (.slice (some ⟨g, 0, none⟩) l.length c) (some (.int .i64 (k : Int))) none none).run Tryd.prog W = .ok (.slice (some ⟨g, k * 2, none⟩) (l.length - k) (c - k)) W := fun W => by
              rw [cutFrom g l.length c k (by omega) W, if_neg (by have := HC.out; omega)]
            have JK : Hid (k = j + 1) := Lib.hid (by have := HJ.out; have := b3; omega)
            clear EQ HY HP HJ DK b3 b4 w2_
            go_wp2
            clear hf0
            go_loopw [3, 5] (fun s3 s5 wr => ∃ (i m : Nat) (cur : List SY), 1 ≤ m ∧ k + m ≤ l.length ∧ i < k + m ∧ s3 = .int .i64 (i : Int) ∧ s5 = .int .i64 (m : Int) ∧ Hid (InZ w base g c l i (k + m) cur wr)) (fun _ s5 _ => l.length - k - cntM s5)
            case atStart => exact ⟨k, 1, l, Nat.le_refl _, by omega, by omega, rfl, rfl, Lib.hid ⟨rfl, S0.out, rfl, C1.out⟩⟩
            case round =>
              obtain ⟨i, m, cur, hm1, hm2, him, rfl, rfl, ZW⟩ := hrel
              by_cases hlt2 : m < l.length - k
              · have d3 : decide ((m : Int) < ((l.length - k : Nat) : Int)) = true := by simp; omega
                have f1 : (0 : Int) ≤ (m : Int) := by omega
                have f2 : (m : Int) < ((l.length - k : Nat) : Int) := by omega
                have w3_ : IntKind.i64.wrap ((m : Int) + 1) = (m : Int) + 1 := IntWalk.i64_in _ (by omega)
                have w4_ : IntKind.i64.wrap ((i : Int) + 1) = (i : Int) + 1 := IntWalk.i64_in _ (by omega)
                obtain ⟨t, ht⟩ : ∃ t, t = m - 1 := ⟨_, rfl⟩
                have w5_ : IntKind.i64.wrap ((m : Int) - 1) = (t : Int) := by rw [show (m : Int) - 1 = (t : Int) by omega]; exact IntWalk.i64_in _ (by omega)
                have f3 : (0 : Int) ≤ (t : Int) := by omega
                have f4 : (t : Int) < ((l.length - k : Nat) : Int) := by omega
                obtain ⟨y, hy⟩ : ∃ y, l[k + m]? = some y := ⟨_, List.getElem?_eq_getElem (by omega)⟩
                obtain ⟨p, hp⟩ : ∃ p, l[k + t]? = some p := ⟨_, List.getElem?_eq_getElem (by omega)⟩
                obtain ⟨y0, y1⟩ := own_at ZW.out.z.row ((get_dropM ZW.out.rest (by omega)).trans hy)
                obtain ⟨p0, p1⟩ := own_at ZW.out.z.row ((get_dropM ZW.out.rest (by omega)).trans hp)
                rw [show (k + m) * 2 = k * 2 + m * 2 by omega] at y0 y1
                rw [show (k + t) * 2 = k * 2 + t * 2 by omega] at p0 p1
                have HY := Lib.hid hy
                have HP : Hid (l[k + m - 1]? = some p) := Lib.hid (by rw [show k + m - 1 = k + t by omega]; exact hp)
                clear hy hp ht
                obtain ⟨a0, a1⟩ := y
                obtain ⟨c0, c1⟩ := p
                simp only at y0 y1 p0 p1
                by_cases q0 : a0 = c0
                · subst q0
                  by_cases q1 : a1 = c1
                  · subst q1
                    go_upto_region 11 with (fail)
                    refine wp_region_noPanic ?_
                    refine wp_region_held_drew (S := fun w' => Q4c g (k * 2 + m * 2) (k * 2 + t * 2) (.int .i64 a0) (.int .i64 a1) (.int .i64 a0) (.int .i64 a1) w') ?hm_ia ?hS_ia (fun hHeld => ?_)
                    case hm_ia => kernel_rfl
                    case hS_ia => exact Q4c.next ⟨y0, y1, p0, p1⟩ (by with_reducible repeat (first | exact Below.refl _ _ | apply pw_below_drewN | apply Below.drew | apply below_alloc))
                    refine wpAnyH_take (i := 0) (oi := ?oia0) (v := ?via0) ?hi_ia0 ?k1_ia0 ?k2_ia0 ?k3_ia0 (fun _ _ _ h => h) (Or.inl ⟨?g_ia0, ?y_ia0⟩) (by assumption) ?r_ia0
                    case hi_ia0 => (simp only [List.getElem?_toArray, List.getElem?_cons_succ, List.getElem?_cons_zero]; rfl)
                    case k1_ia0 => kernel_rfl
                    case k2_ia0 => kernel_rfl
                    case k3_ia0 => kernel_rfl
                    case g_ia0 => rfl
                    case y_ia0 => (intro w hSw; (try dsimp only at hSw); first | (go_simp; done) | (go_simp; with_reducible rfl))
                    (try simp only [Act.put, List.setIfInBounds_toArray, List.set_cons_zero, List.set_cons_succ])
                    refine wpAnyH_take (i := 1) (oi := ?oia1) (v := ?via1) ?hi_ia1 ?k1_ia1 ?k2_ia1 ?k3_ia1 (fun _ _ _ h => h) (Or.inl ⟨?g_ia1, ?y_ia1⟩) (by assumption) ?r_ia1
                    case hi_ia1 => (simp only [List.getElem?_toArray, List.getElem?_cons_succ, List.getElem?_cons_zero]; rfl)
                    case k1_ia1 => kernel_rfl
                    case k2_ia1 => kernel_rfl
                    case k3_ia1 => kernel_rfl
                    case g_ia1 => rfl
                    case y_ia1 => (intro w hSw; (try dsimp only at hSw); first | (go_simp; done) | (go_simp; with_reducible rfl))
                    (try simp only [Act.put, List.setIfInBounds_toArray, List.set_cons_zero, List.set_cons_succ])
                    refine wpAnyH_take (i := 2) (oi := ?oia2) (v := ?via2) ?hi_ia2 ?k1_ia2 ?k2_ia2 ?k3_ia2 (fun _ _ _ h => h) (Or.inl ⟨?g_ia2, ?y_ia2⟩) (by assumption) ?r_ia2
                    case hi_ia2 => (simp only [List.getElem?_toArray, List.getElem?_cons_succ, List.getElem?_cons_zero]; rfl)
                    case k1_ia2 => kernel_rfl
                    case k2_ia2 => kernel_rfl
                    case k3_ia2 => kernel_rfl
                    case g_ia2 => rfl
                    case y_ia2 => (intro w hSw; (try dsimp only at hSw); first | (go_simp; done) | (go_simp; with_reducible rfl))
                    (try simp only [Act.put, List.setIfInBounds_toArray, List.set_cons_zero, List.set_cons_succ])
                    refine wpAnyH_take (i := 3) (oi := ?oia3) (v := ?via3) ?hi_ia3 ?k1_ia3 ?k2_ia3 ?k3_ia3 (fun _ _ _ h => h) (Or.inl ⟨?g_ia3, ?y_ia3⟩) (by assumption) ?r_ia3
                    case hi_ia3 => (simp only [List.getElem?_toArray, List.getElem?_cons_succ, List.getElem?_cons_zero]; rfl)
                    case k1_ia3 => kernel_rfl
                    case k2_ia3 => kernel_rfl
                    case k3_ia3 => kernel_rfl
                    case g_ia3 => rfl
                    case y_ia3 => (intro w hSw; (try dsimp only at hSw); first | (go_simp; done) | (go_simp; with_reducible rfl))
                    (try simp only [Act.put, List.setIfInBounds_toArray, List.set_cons_zero, List.set_cons_succ])
                    refine wpAnyH_take (i := 4) (oi := ?oia4) (v := ?via4) ?hi_ia4 ?k1_ia4 ?k2_ia4 ?k3_ia4 (fun _ _ _ h => h) (Or.inl ⟨?g_ia4, ?y_ia4⟩) (by assumption) ?r_ia4
                    case hi_ia4 => (simp only [List.getElem?_toArray, List.getElem?_cons_succ, List.getElem?_cons_zero]; rfl)
                    case k1_ia4 => kernel_rfl
                    case k2_ia4 => kernel_rfl
                    case k3_ia4 => kernel_rfl
                    case g_ia4 => rfl
                    case y_ia4 => (intro w hSw; (try dsimp only at hSw); first | (go_simp; done) | (go_simp; with_reducible rfl))
                    (try simp only [Act.put, List.setIfInBounds_toArray, List.set_cons_zero, List.set_cons_succ])
                    refine wpAnyH_take (i := 5) (oi := ?oia5) (v := ?via5) ?hi_ia5 ?k1_ia5 ?k2_ia5 ?k3_ia5 (fun _ _ _ h => h) (Or.inl ⟨?g_ia5, ?y_ia5⟩) (by assumption) ?r_ia5
                    case hi_ia5 => (simp only [List.getElem?_toArray, List.getElem?_cons_succ, List.getElem?_cons_zero]; rfl)
                    case k1_ia5 => kernel_rfl
                    case k2_ia5 => kernel_rfl
                    case k3_ia5 => kernel_rfl
                    case g_ia5 => rfl
                    case y_ia5 => (intro w hSw; (try dsimp only at hSw); first | (go_simp; done) | (go_simp; with_reducible rfl))
                    (try simp only [Act.put, List.setIfInBounds_toArray, List.set_cons_zero, List.set_cons_succ])
                    refine wpAnyH_take (i := 6) (oi := ?oia6) (v := ?via6) ?hi_ia6 ?k1_ia6 ?k2_ia6 ?k3_ia6 (fun _ _ _ h => h) (Or.inl ⟨?g_ia6, ?y_ia6⟩) (by assumption) ?r_ia6
                    case hi_ia6 => (simp only [List.getElem?_toArray, List.getElem?_cons_succ, List.getElem?_cons_zero]; rfl)
                    case k1_ia6 => kernel_rfl
                    case k2_ia6 => kernel_rfl
                    case k3_ia6 => kernel_rfl
                    case g_ia6 => rfl
                    case y_ia6 => (intro w hSw; (try dsimp only at hSw); first | (go_simp; done) | (go_simp; with_reducible rfl))
                    (try simp only [Act.put, List.setIfInBounds_toArray, List.set_cons_zero, List.set_cons_succ])
                    refine wpAnyH_take (i := 7) (oi := ?oia7) (v := ?via7) ?hi_ia7 ?k1_ia7 ?k2_ia7 ?k3_ia7 (fun _ _ _ h => h) (Or.inl ⟨?g_ia7, ?y_ia7⟩) (by assumption) ?r_ia7
                    case hi_ia7 => (simp only [List.getElem?_toArray, List.getElem?_cons_succ, List.getElem?_cons_zero]; rfl)
                    case k1_ia7 => kernel_rfl
                    case k2_ia7 => kernel_rfl
                    case k3_ia7 => kernel_rfl
                    case g_ia7 => rfl
                    case y_ia7 => (intro w hSw; (try dsimp only at hSw); first | (go_simp; done) | (go_simp; with_reducible rfl))
                    (try simp only [Act.put, List.setIfInBounds_toArray, List.set_cons_zero, List.set_cons_succ])
                    refine wpAnyH_take (i := 8) (oi := ?oia8) (v := ?via8) ?hi_ia8 ?k1_ia8 ?k2_ia8 ?k3_ia8 (fun _ _ _ h => h) (Or.inl ⟨?g_ia8, ?y_ia8⟩) (by assumption) ?r_ia8
                    case hi_ia8 => (simp only [List.getElem?_toArray, List.getElem?_cons_succ, List.getElem?_cons_zero]; rfl)
                    case k1_ia8 => kernel_rfl
                    case k2_ia8 => kernel_rfl
                    case k3_ia8 => kernel_rfl
                    case g_ia8 => rfl
                    case y_ia8 => (intro w hSw; (try dsimp only at hSw); first | (go_simp; done) | (go_simp; with_reducible rfl))
                    (try simp only [Act.put, List.setIfInBounds_toArray, List.set_cons_zero, List.set_cons_succ])
                    refine wpAnyH_take (i := 9) (oi := ?oia9) (v := ?via9) ?hi_ia9 ?k1_ia9 ?k2_ia9 ?k3_ia9 (fun _ _ _ h => h) (Or.inl ⟨?g_ia9, ?y_ia9⟩) (by assumption) ?r_ia9
                    case hi_ia9 => (simp only [List.getElem?_toArray, List.getElem?_cons_succ, List.getElem?_cons_zero]; rfl)
                    case k1_ia9 => kernel_rfl
                    case k2_ia9 => kernel_rfl
                    case k3_ia9 => kernel_rfl
                    case g_ia9 => rfl
                    case y_ia9 => (intro w hSw; (try dsimp only at hSw); first | (go_simp; done) | (go_simp; with_reducible rfl))
                    (try simp only [Act.put, List.setIfInBounds_toArray, List.set_cons_zero, List.set_cons_succ])
                    refine wpAnyH_done (by kernel_rfl) ?_ _
                    refine NoPanic.normal ?_
                    clear y0 y1 p0 p1 hHeld
                    refine gen2 (φ := fun W => Exit.then _ _ Exit.normal _ W) (P := fun W => Below wr.heap.size wr W) (by with_reducible repeat (first | exact Below.refl _ _ | apply pw_below_drewN | apply Below.drew)) ?_
                    rintro V2 hV
                    have Z2 := Lib.hid (ZW.out.z.next hV)
                    clear hV
                    go_wp2
                    go_roundw
                    case rel => exact ⟨i, m + 1, cur, by omega, by omega, by omega, rfl, by go_num, Lib.hid ⟨ZW.out.len, by rw [ZW.out.got, show k + (m + 1) = k + m + 1 by omega, ddT_same (by omega) HY.out HP.out], by rw [show k + (m + 1) - 1 = k + m - 1 + 1 by omega, ← List.drop_drop, ZW.out.rest, List.drop_drop], Z2.out⟩⟩
                    case measure =>
                      simp only [cntM]
                      omega
                  · have NE : Hid ((⟨a0, a1⟩ : SY) ≠ ⟨a0, c1⟩) := Lib.hid (fun e => q1 (by injection e))
                    go_upto_region 11 with (fail)
                    refine wp_region_noPanic ?_
                    refine wp_region_held_drew (S := fun w' => Q4c g (k * 2 + m * 2) (k * 2 + t * 2) (.int .i64 a0) (.int .i64 a1) (.int .i64 a0) (.int .i64 c1) w') ?hm_ib ?hS_ib (fun hHeld => ?_)
                    case hm_ib => kernel_rfl
                    case hS_ib => exact Q4c.next ⟨y0, y1, p0, p1⟩ (by with_reducible repeat (first | exact Below.refl _ _ | apply pw_below_drewN | apply Below.drew | apply below_alloc))
                    refine wpAnyH_take (i := 0) (oi := ?oib0) (v := ?vib0) ?hi_ib0 ?k1_ib0 ?k2_ib0 ?k3_ib0 (fun _ _ _ h => h) (Or.inl ⟨?g_ib0, ?y_ib0⟩) (by assumption) ?r_ib0
                    case hi_ib0 => (simp only [List.getElem?_toArray, List.getElem?_cons_succ, List.getElem?_cons_zero]; rfl)
                    case k1_ib0 => kernel_rfl
                    case k2_ib0 => kernel_rfl
                    case k3_ib0 => kernel_rfl
                    case g_ib0 => rfl
                    case y_ib0 => (intro w hSw; (try dsimp only at hSw); first | (go_simp; done) | (go_simp; with_reducible rfl))
                    (try simp only [Act.put, List.setIfInBounds_toArray, List.set_cons_zero, List.set_cons_succ])
                    refine wpAnyH_take (i := 1) (oi := ?oib1) (v := ?vib1) ?hi_ib1 ?k1_ib1 ?k2_ib1 ?k3_ib1 (fun _ _ _ h => h) (Or.inl ⟨?g_ib1, ?y_ib1⟩) (by assumption) ?r_ib1
                    case hi_ib1 => (simp only [List.getElem?_toArray, List.getElem?_cons_succ, List.getElem?_cons_zero]; rfl)
                    case k1_ib1 => kernel_rfl
                    case k2_ib1 => kernel_rfl
                    case k3_ib1 => kernel_rfl
                    case g_ib1 => rfl
                    case y_ib1 => (intro w hSw; (try dsimp only at hSw); first | (go_simp; done) | (go_simp; with_reducible rfl))
                    (try simp only [Act.put, List.setIfInBounds_toArray, List.set_cons_zero, List.set_cons_succ])
                    refine wpAnyH_take (i := 2) (oi := ?oib2) (v := ?vib2) ?hi_ib2 ?k1_ib2 ?k2_ib2 ?k3_ib2 (fun _ _ _ h => h) (Or.inl ⟨?g_ib2, ?y_ib2⟩) (by assumption) ?r_ib2
                    case hi_ib2 => (simp only [List.getElem?_toArray, List.getElem?_cons_succ, List.getElem?_cons_zero]; rfl)
                    case k1_ib2 => kernel_rfl
                    case k2_ib2 => kernel_rfl
                    case k3_ib2 => kernel_rfl
                    case g_ib2 => rfl
                    case y_ib2 => (intro w hSw; (try dsimp only at hSw); first | (go_simp; done) | (go_simp; with_reducible rfl))
                    (try simp only [Act.put, List.setIfInBounds_toArray, List.set_cons_zero, List.set_cons_succ])
                    refine wpAnyH_take (i := 3) (oi := ?oib3) (v := ?vib3) ?hi_ib3 ?k1_ib3 ?k2_ib3 ?k3_ib3 (fun _ _ _ h => h) (Or.inl ⟨?g_ib3, ?y_ib3⟩) (by assumption) ?r_ib3
                    case hi_ib3 => (simp only [List.getElem?_toArray, List.getElem?_cons_succ, List.getElem?_cons_zero]; rfl)
                    case k1_ib3 => kernel_rfl
                    case k2_ib3 => kernel_rfl
                    case k3_ib3 => kernel_rfl
                    case g_ib3 => rfl
                    case y_ib3 => (intro w hSw; (try dsimp only at hSw); first | (go_simp; done) | (go_simp; with_reducible rfl))
                    (try simp only [Act.put, List.setIfInBounds_toArray, List.set_cons_zero, List.set_cons_succ])
                    refine wpAnyH_take (i := 4) (oi := ?oib4) (v := ?vib4) ?hi_ib4 ?k1_ib4 ?k2_ib4 ?k3_ib4 (fun _ _ _ h => h) (Or.inl ⟨?g_ib4, ?y_ib4⟩) (by assumption) ?r_ib4
                    case hi_ib4 => (simp only [List.getElem?_toArray, List.getElem?_cons_succ, List.getElem?_cons_zero]; rfl)
                    case k1_ib4 => kernel_rfl
                    case k2_ib4 => kernel_rfl
                    case k3_ib4 => kernel_rfl
                    case g_ib4 => rfl
                    case y_ib4 => (intro w hSw; (try dsimp only at hSw); first | (go_simp; done) | (go_simp; with_reducible rfl))
                    (try simp only [Act.put, List.setIfInBounds_toArray, List.set_cons_zero, List.set_cons_succ])
                    refine wpAnyH_take (i := 5) (oi := ?oib5) (v := ?vib5) ?hi_ib5 ?k1_ib5 ?k2_ib5 ?k3_ib5 (fun _ _ _ h => h) (Or.inl ⟨?g_ib5, ?y_ib5⟩) (by assumption) ?r_ib5
                    case hi_ib5 => (simp only [List.getElem?_toArray, List.getElem?_cons_succ, List.getElem?_cons_zero]; rfl)
                    case k1_ib5 => kernel_rfl
                    case k2_ib5 => kernel_rfl
                    case k3_ib5 => kernel_rfl
                    case g_ib5 => rfl
                    case y_ib5 => (intro w hSw; (try dsimp only at hSw); first | (go_simp; done) | (go_simp; with_reducible rfl))
                    (try simp only [Act.put, List.setIfInBounds_toArray, List.set_cons_zero, List.set_cons_succ])
                    refine wpAnyH_take (i := 6) (oi := ?oib6) (v := ?vib6) ?hi_ib6 ?k1_ib6 ?k2_ib6 ?k3_ib6 (fun _ _ _ h => h) (Or.inl ⟨?g_ib6, ?y_ib6⟩) (by assumption) ?r_ib6
                    case hi_ib6 => (simp only [List.getElem?_toArray, List.getElem?_cons_succ, List.getElem?_cons_zero]; rfl)
                    case k1_ib6 => kernel_rfl
                    case k2_ib6 => kernel_rfl
                    case k3_ib6 => kernel_rfl
                    case g_ib6 => rfl
                    case y_ib6 => (intro w hSw; (try dsimp only at hSw); first | (go_simp; done) | (go_simp; with_reducible rfl))
                    (try simp only [Act.put, List.setIfInBounds_toArray, List.set_cons_zero, List.set_cons_succ])
                    refine wpAnyH_take (i := 7) (oi := ?oib7) (v := ?vib7) ?hi_ib7 ?k1_ib7 ?k2_ib7 ?k3_ib7 (fun _ _ _ h => h) (Or.inl ⟨?g_ib7, ?y_ib7⟩) (by assumption) ?r_ib7
                    case hi_ib7 => (simp only [List.getElem?_toArray, List.getElem?_cons_succ, List.getElem?_cons_zero]; rfl)
                    case k1_ib7 => kernel_rfl
                    case k2_ib7 => kernel_rfl
                    case k3_ib7 => kernel_rfl
                    case g_ib7 => rfl
                    case y_ib7 => (intro w hSw; (try dsimp only at hSw); first | (go_simp; done) | (go_simp; with_reducible rfl))
                    (try simp only [Act.put, List.setIfInBounds_toArray, List.set_cons_zero, List.set_cons_succ])
                    refine wpAnyH_take (i := 8) (oi := ?oib8) (v := ?vib8) ?hi_ib8 ?k1_ib8 ?k2_ib8 ?k3_ib8 (fun _ _ _ h => h) (Or.inl ⟨?g_ib8, ?y_ib8⟩) (by assumption) ?r_ib8
                    case hi_ib8 => (simp only [List.getElem?_toArray, List.getElem?_cons_succ, List.getElem?_cons_zero]; rfl)
                    case k1_ib8 => kernel_rfl
                    case k2_ib8 => kernel_rfl
                    case k3_ib8 => kernel_rfl
                    case g_ib8 => rfl
                    case y_ib8 => (intro w hSw; (try dsimp only at hSw); first | (go_simp; done) | (go_simp; with_reducible rfl))
                    (try simp only [Act.put, List.setIfInBounds_toArray, List.set_cons_zero, List.set_cons_succ])
                    refine wpAnyH_take (i := 9) (oi := ?oib9) (v := ?vib9) ?hi_ib9 ?k1_ib9 ?k2_ib9 ?k3_ib9 (fun _ _ _ h => h) (Or.inl ⟨?g_ib9, ?y_ib9⟩) (by assumption) ?r_ib9
                    case hi_ib9 => (simp only [List.getElem?_toArray, List.getElem?_cons_succ, List.getElem?_cons_zero]; rfl)
                    case k1_ib9 => kernel_rfl
                    case k2_ib9 => kernel_rfl
                    case k3_ib9 => kernel_rfl
                    case g_ib9 => rfl
                    case y_ib9 => (intro w hSw; (try dsimp only at hSw); first | (go_simp; done) | (go_simp; with_reducible rfl))
                    (try simp only [Act.put, List.setIfInBounds_toArray, List.set_cons_zero, List.set_cons_succ])
                    refine wpAnyH_done (by kernel_rfl) ?_ _
                    refine NoPanic.normal ?_
                    clear y0 y1 p0 p1 hHeld
                    refine gen2 (φ := fun W => Exit.then _ _ Exit.normal _ W) (P := fun W => Below wr.heap.size wr W) (by with_reducible repeat (first | exact Below.refl _ _ | apply pw_below_drewN | apply Below.drew)) ?_
                    rintro V2 hV
                    have Z2 := Lib.hid (ZW.out.z.next hV)
                    clear hV
                    obtain ⟨u, hu⟩ : ∃ u, cur[i]? = some u := ⟨_, List.getElem?_eq_getElem (by rw [ZW.out.len]; omega)⟩
                    obtain ⟨u0, u1⟩ := own_at Z2.out.row hu
                    obtain ⟨y0, y1⟩ := own_at Z2.out.row ((get_dropM ZW.out.rest (by omega)).trans HY.out)
                    rw [show (k + m) * 2 = k * 2 + m * 2 by omega] at y0 y1
                    have z0 := own_fr Z2.out.row (i * 2)
                    have z1 := own_fr Z2.out.row (i * 2 + 1)
                    have g1 : (0 : Int) ≤ (i : Int) := by omega
                    have g2 : (i : Int) < (l.length : Int) := by omega
                    clear hu
                    simp only at y0 y1
                    go_upto_region 13 with fail
                    refine gen2 (φ := fun W => Code.wp _ _ _ _ W) (P := fun W => CmZ w base g l.length c (cur.set i ⟨a0, a1⟩) W) (Z2.out.set (by omega) ⟨a0, a1⟩) ?_
                    rintro V3 hV3
                    have Z3 := Lib.hid hV3
                    clear hV3 Z2 u0 u1 y0 y1 z0 z1
                    go_wp2
                    go_roundw
                    case rel => exact ⟨i + 1, m + 1, cur.set i ⟨a0, a1⟩, by omega, by omega, by omega, by go_num, by go_num, Lib.hid ⟨by rw [List.length_set, ZW.out.len], by rw [take_set_M (by rw [ZW.out.len]; omega), ZW.out.got, show k + (m + 1) = k + m + 1 by omega, ddT_more HY.out (fun _ h => by rw [HP.out] at h; exact NE.out (Option.some.inj h).symm)], by rw [show k + (m + 1) - 1 = k + m - 1 + 1 by omega, List.drop_set_of_lt (by omega), ← List.drop_drop, ZW.out.rest, List.drop_drop], Z3.out⟩⟩
                    case measure =>
                      simp only [cntM]
                      omega
                · have NE : Hid ((⟨a0, a1⟩ : SY) ≠ ⟨c0, c1⟩) := Lib.hid (fun e => q0 (by injection e))
                  go_upto_region 11 with (fail)
                  refine wp_region_noPanic ?_
                  refine wp_region_held_drew (S := fun w' => Q4c g (k * 2 + m * 2) (k * 2 + t * 2) (.int .i64 a0) (.int .i64 a1) (.int .i64 c0) (.int .i64 c1) w') ?hm_ic ?hS_ic (fun hHeld => ?_)
                  case hm_ic => kernel_rfl
                  case hS_ic => exact Q4c.next ⟨y0, y1, p0, p1⟩ (by with_reducible repeat (first | exact Below.refl _ _ | apply pw_below_drewN | apply Below.drew | apply below_alloc))
                  refine wpAnyH_take (i := 0) (oi := ?oic0) (v := ?vic0) ?hi_ic0 ?k1_ic0 ?k2_ic0 ?k3_ic0 (fun _ _ _ h => h) (Or.inl ⟨?g_ic0, ?y_ic0⟩) (by assumption) ?r_ic0
                  case hi_ic0 => (simp only [List.getElem?_toArray, List.getElem?_cons_succ, List.getElem?_cons_zero]; rfl)
                  case k1_ic0 => kernel_rfl
                  case k2_ic0 => kernel_rfl
                  case k3_ic0 => kernel_rfl
                  case g_ic0 => rfl
                  case y_ic0 => (intro w hSw; (try dsimp only at hSw); first | (go_simp; done) | (go_simp; with_reducible rfl))
                  (try simp only [Act.put, List.setIfInBounds_toArray, List.set_cons_zero, List.set_cons_succ])
                  refine wpAnyH_take (i := 1) (oi := ?oic1) (v := ?vic1) ?hi_ic1 ?k1_ic1 ?k2_ic1 ?k3_ic1 (fun _ _ _ h => h) (Or.inl ⟨?g_ic1, ?y_ic1⟩) (by assumption) ?r_ic1
                  case hi_ic1 => (simp only [List.getElem?_toArray, List.getElem?_cons_succ, List.getElem?_cons_zero]; rfl)
                  case k1_ic1 => kernel_rfl
                  case k2_ic1 => kernel_rfl
                  case k3_ic1 => kernel_rfl
                  case g_ic1 => rfl
                  case y_ic1 => (intro w hSw; (try dsimp only at hSw); first | (go_simp; done) | (go_simp; with_reducible rfl))
                  (try simp only [Act.put, List.setIfInBounds_toArray, List.set_cons_zero, List.set_cons_succ])
                  refine wpAnyH_take (i := 2) (oi := ?oic2) (v := ?vic2) ?hi_ic2 ?k1_ic2 ?k2_ic2 ?k3_ic2 (fun _ _ _ h => h) (Or.inl ⟨?g_ic2, ?y_ic2⟩) (by assumption) ?r_ic2
                  case hi_ic2 => (simp only [List.getElem?_toArray, List.getElem?_cons_succ, List.getElem?_cons_zero]; rfl)
                  case k1_ic2 => kernel_rfl
                  case k2_ic2 => kernel_rfl
                  case k3_ic2 => kernel_rfl
                  case g_ic2 => rfl
                  case y_ic2 => (intro w hSw; (try dsimp only at hSw); first | (go_simp; done) | (go_simp; with_reducible rfl))
                  (try simp only [Act.put, List.setIfInBounds_toArray, List.set_cons_zero, List.set_cons_succ])
                  refine wpAnyH_take (i := 3) (oi := ?oic3) (v := ?vic3) ?hi_ic3 ?k1_ic3 ?k2_ic3 ?k3_ic3 (fun _ _ _ h => h) (Or.inl ⟨?g_ic3, ?y_ic3⟩) (by assumption) ?r_ic3
                  case hi_ic3 => (simp only [List.getElem?_toArray, List.getElem?_cons_succ, List.getElem?_cons_zero]; rfl)
                  case k1_ic3 => kernel_rfl
                  case k2_ic3 => kernel_rfl
                  case k3_ic3 => kernel_rfl
                  case g_ic3 => rfl
                  case y_ic3 => (intro w hSw; (try dsimp only at hSw); first | (go_simp; done) | (go_simp; with_reducible rfl))
                  (try simp only [Act.put, List.setIfInBounds_toArray, List.set_cons_zero, List.set_cons_succ])
                  refine wpAnyH_take (i := 4) (oi := ?oic4) (v := ?vic4) ?hi_ic4 ?k1_ic4 ?k2_ic4 ?k3_ic4 (fun _ _ _ h => h) (Or.inl ⟨?g_ic4, ?y_ic4⟩) (by assumption) ?r_ic4
                  case hi_ic4 => (simp only [List.getElem?_toArray, List.getElem?_cons_succ, List.getElem?_cons_zero]; rfl)
                  case k1_ic4 => kernel_rfl
                  case k2_ic4 => kernel_rfl
                  case k3_ic4 => kernel_rfl
                  case g_ic4 => rfl
                  case y_ic4 => (intro w hSw; (try dsimp only at hSw); first | (go_simp; done) | (go_simp; with_reducible rfl))
                  (try simp only [Act.put, List.setIfInBounds_toArray, List.set_cons_zero, List.set_cons_succ])
                  refine wpAnyH_take (i := 5) (oi := ?oic5) (v := ?vic5) ?hi_ic5 ?k1_ic5 ?k2_ic5 ?k3_ic5 (fun _ _ _ h => h) (Or.inl ⟨?g_ic5, ?y_ic5⟩) (by assumption) ?r_ic5
                  case hi_ic5 => (simp only [List.getElem?_toArray, List.getElem?_cons_succ, List.getElem?_cons_zero]; rfl)
                  case k1_ic5 => kernel_rfl
                  case k2_ic5 => kernel_rfl
                  case k3_ic5 => kernel_rfl
                  case g_ic5 => rfl
                  case y_ic5 => (intro w hSw; (try dsimp only at hSw); first | (go_simp; done) | (go_simp; with_reducible rfl))
                  (try simp only [Act.put, List.setIfInBounds_toArray, List.set_cons_zero, List.set_cons_succ])
                  refine wpAnyH_take (i := 6) (oi := ?oic6) (v := ?vic6) ?hi_ic6 ?k1_ic6 ?k2_ic6 ?k3_ic6 (fun _ _ _ h => h) (Or.inl ⟨?g_ic6, ?y_ic6⟩) (by assumption) ?r_ic6
                  case hi_ic6 => (simp only [List.getElem?_toArray, List.getElem?_cons_succ, List.getElem?_cons_zero]; rfl)
                  case k1_ic6 => kernel_rfl
                  case k2_ic6 => kernel_rfl
                  case k3_ic6 => kernel_rfl
                  case g_ic6 => rfl
                  case y_ic6 => (intro w hSw; (try dsimp only at hSw); first | (go_simp; done) | (go_simp; with_reducible rfl))
                  (try simp only [Act.put, List.setIfInBounds_toArray, List.set_cons_zero, List.set_cons_succ])
                  refine wpAnyH_take (i := 7) (oi := ?oic7) (v := ?vic7) ?hi_ic7 ?k1_ic7 ?k2_ic7 ?k3_ic7 (fun _ _ _ h => h) (Or.inl ⟨?g_ic7, ?y_ic7⟩) (by assumption) ?r_ic7
                  case hi_ic7 => (simp only [List.getElem?_toArray, List.getElem?_cons_succ, List.getElem?_cons_zero]; rfl)
                  case k1_ic7 => kernel_rfl
                  case k2_ic7 => kernel_rfl
                  case k3_ic7 => kernel_rfl
                  case g_ic7 => rfl
                  case y_ic7 => (intro w hSw; (try dsimp only at hSw); first | (go_simp; done) | (go_simp; with_reducible rfl))
                  (try simp only [Act.put, List.setIfInBounds_toArray, List.set_cons_zero, List.set_cons_succ])
                  refine wpAnyH_take (i := 8) (oi := ?oic8) (v := ?vic8) ?hi_ic8 ?k1_ic8 ?k2_ic8 ?k3_ic8 (fun _ _ _ h => h) (Or.inl ⟨?g_ic8, ?y_ic8⟩) (by assumption) ?r_ic8
                  case hi_ic8 => (simp only [List.getElem?_toArray, List.getElem?_cons_succ, List.getElem?_cons_zero]; rfl)
                  case k1_ic8 => kernel_rfl
                  case k2_ic8 => kernel_rfl
                  case k3_ic8 => kernel_rfl
                  case g_ic8 => rfl
                  case y_ic8 => (intro w hSw; (try dsimp only at hSw); first | (go_simp; done) | (go_simp; with_reducible rfl))
                  (try simp only [Act.put, List.setIfInBounds_toArray, List.set_cons_zero, List.set_cons_succ])
                  refine wpAnyH_take (i := 9) (oi := ?oic9) (v := ?vic9) ?hi_ic9 ?k1_ic9 ?k2_ic9 ?k3_ic9 (fun _ _ _ h => h) (Or.inl ⟨?g_ic9, ?y_ic9⟩) (by assumption) ?r_ic9
                  case hi_ic9 => (simp only [List.getElem?_toArray, List.getElem?_cons_succ, List.getElem?_cons_zero]; rfl)
                  case k1_ic9 => kernel_rfl
                  case k2_ic9 => kernel_rfl
                  case k3_ic9 => kernel_rfl
                  case g_ic9 => rfl
                  case y_ic9 => (intro w hSw; (try dsimp only at hSw); first | (go_simp; done) | (go_simp; with_reducible rfl))
                  (try simp only [Act.put, List.setIfInBounds_toArray, List.set_cons_zero, List.set_cons_succ])
                  refine wpAnyH_done (by kernel_rfl) ?_ _
                  refine NoPanic.normal ?_
                  clear y0 y1 p0 p1 hHeld
                  refine gen2 (φ := fun W => Exit.then _ _ Exit.normal _ W) (P := fun W => Below wr.heap.size wr W) (by with_reducible repeat (first | exact Below.refl _ _ | apply pw_below_drewN | apply Below.drew)) ?_
                  rintro V2 hV
                  have Z2 := Lib.hid (ZW.out.z.next hV)
                  clear hV
                  obtain ⟨u, hu⟩ : ∃ u, cur[i]? = some u := ⟨_, List.getElem?_eq_getElem (by rw [ZW.out.len]; omega)⟩
                  obtain ⟨u0, u1⟩ := own_at Z2.out.row hu
                  obtain ⟨y0, y1⟩ := own_at Z2.out.row ((get_dropM ZW.out.rest (by omega)).trans HY.out)
                  rw [show (k + m) * 2 = k * 2 + m * 2 by omega] at y0 y1
                  have z0 := own_fr Z2.out.row (i * 2)
                  have z1 := own_fr Z2.out.row (i * 2 + 1)
                  have g1 : (0 : Int) ≤ (i : Int) := by omega
                  have g2 : (i : Int) < (l.length : Int) := by omega
                  clear hu
                  simp only at y0 y1
                  go_upto_region 13 with fail
                  refine gen2 (φ := fun W => Code.wp _ _ _ _ W) (P := fun W => CmZ w base g l.length c (cur.set i ⟨a0, a1⟩) W) (Z2.out.set (by omega) ⟨a0, a1⟩) ?_
                  rintro V3 hV3
                  have Z3 := Lib.hid hV3
                  clear hV3 Z2 u0 u1 y0 y1 z0 z1
                  go_wp2
                  go_roundw
                  case rel => exact ⟨i + 1, m + 1, cur.set i ⟨a0, a1⟩, by omega, by omega, by omega, by go_num, by go_num, Lib.hid ⟨by rw [List.length_set, ZW.out.len], by rw [take_set_M (by rw [ZW.out.len]; omega), ZW.out.got, show k + (m + 1) = k + m + 1 by omega, ddT_more HY.out (fun _ h => by rw [HP.out] at h; exact NE.out (Option.some.inj h).symm)], by rw [show k + (m + 1) - 1 = k + m - 1 + 1 by omega, List.drop_set_of_lt (by omega), ← List.drop_drop, ZW.out.rest, List.drop_drop], Z3.out⟩⟩
                  case measure =>
                    simp only [cntM]
                    omega
              · have d3 : decide ((m : Int) < ((l.length - k : Nat) : Int)) = false := by simp; omega
                have ekm : k + m = l.length := by omega
                have GOT := Lib.hid (by have e := ZW.out.got; rw [ekm] at e; exact e)
                have hil : i ≤ l.length := by omega
                have hic : i ≤ c := by have := HC.out; omega
                have z5 : ∀ v ∈ (Value.agg #[.int .i64 0, .int .i64 0]).cells.toList, v.oneCell' = true := by decide
                obtain ⟨w1, hrun, hR1, hg1, _⟩ := YtjphmebhofkhcaaDoorOwn.run_clear_rows kY 23 70 0 (.agg #[.int .i64 0, .int .i64 0]) Tryd.underlying23 (fun w => by kernel_rfl) rfl z5 ZW.out.z.row hil (A := if c = i then some ⟨g, 0, none⟩ else some ⟨g, i * 2, none⟩) (c2 := c - i) (fun h => by rw [if_neg (by have := HC.out; omega)]; rfl) (Below.refl base wr)
                have hfrom := cutFrom g l.length c i hil
                have hto := cutTo g l.length c i hil HC.out
                generalize (if c = i then some ⟨g, 0, none⟩ else some ⟨g, i * 2, none⟩ : Option Addr) = AC at hrun hfrom
                have HG1 := Lib.hid hg1
                have HR1 := Lib.hid hR1
                clear hg1 hR1 z5
                go_wp2
                go_ret
                refine ⟨_, rfl, ?_, World.grownBy.trans ZW.out.z.grew HG1.out⟩
                rw [← GOT.out]
                exact HR1.out
          · have NE := Lib.hid (show y ≠ p from fun e => by obtain ⟨z0, z1, z2, z3⟩ := EA.out; exact q1 (by rw [z1, z3, e]))
            clear EA
            go_upto_region 6 with (fail)
            refine wp_region_noPanic ?_
            refine wp_region_held_drew (S := fun w' => Q4c g (k * 2) (j * 2) (.int .i64 a0) (.int .i64 a1) (.int .i64 a0) (.int .i64 c1) w') ?hm_rb ?hS_rb (fun hHeld => ?_)
            case hm_rb => kernel_rfl
            case hS_rb => exact Q4c.next ⟨y0, y1, p0, p1⟩ (by with_reducible repeat (first | exact Below.refl _ _ | apply pw_below_drewN | apply Below.drew | apply below_alloc))
            refine wpAnyH_take (i := 0) (oi := ?orb0) (v := ?vrb0) ?hi_rb0 ?k1_rb0 ?k2_rb0 ?k3_rb0 (fun _ _ _ h => h) (Or.inl ⟨?g_rb0, ?y_rb0⟩) (by assumption) ?r_rb0
            case hi_rb0 => (simp only [List.getElem?_toArray, List.getElem?_cons_succ, List.getElem?_cons_zero]; rfl)
            case k1_rb0 => kernel_rfl
            case k2_rb0 => kernel_rfl
            case k3_rb0 => kernel_rfl
            case g_rb0 => rfl
            case y_rb0 => (intro w hSw; (try dsimp only at hSw); first | (go_simp; done) | (go_simp; with_reducible rfl))
            (try simp only [Act.put, List.setIfInBounds_toArray, List.set_cons_zero, List.set_cons_succ])
            refine wpAnyH_take (i := 1) (oi := ?orb1) (v := ?vrb1) ?hi_rb1 ?k1_rb1 ?k2_rb1 ?k3_rb1 (fun _ _ _ h => h) (Or.inl ⟨?g_rb1, ?y_rb1⟩) (by assumption) ?r_rb1
            case hi_rb1 => (simp only [List.getElem?_toArray, List.getElem?_cons_succ, List.getElem?_cons_zero]; rfl)
            case k1_rb1 => kernel_rfl
            case k2_rb1 => kernel_rfl
            case k3_rb1 => kernel_rfl
            case g_rb1 => rfl
            case y_rb1 => (intro w hSw; (try dsimp only at hSw); first | (go_simp; done) | (go_simp; with_reducible rfl))
            (try simp only [Act.put, List.setIfInBounds_toArray, List.set_cons_zero, List.set_cons_succ])
            refine wpAnyH_take (i := 2) (oi := ?orb2) (v := ?vrb2) ?hi_rb2 ?k1_rb2 ?k2_rb2 ?k3_rb2 (fun _ _ _ h => h) (Or.inl ⟨?g_rb2, ?y_rb2⟩) (by assumption) ?r_rb2
            case hi_rb2 => (simp only [List.getElem?_toArray, List.getElem?_cons_succ, List.getElem?_cons_zero]; rfl)
            case k1_rb2 => kernel_rfl
            case k2_rb2 => kernel_rfl
            case k3_rb2 => kernel_rfl
            case g_rb2 => rfl
            case y_rb2 => (intro w hSw; (try dsimp only at hSw); first | (go_simp; done) | (go_simp; with_reducible rfl))
            (try simp only [Act.put, List.setIfInBounds_toArray, List.set_cons_zero, List.set_cons_succ])
            refine wpAnyH_take (i := 3) (oi := ?orb3) (v := ?vrb3) ?hi_rb3 ?k1_rb3 ?k2_rb3 ?k3_rb3 (fun _ _ _ h => h) (Or.inl ⟨?g_rb3, ?y_rb3⟩) (by assumption) ?r_rb3
            case hi_rb3 => (simp only [List.getElem?_toArray, List.getElem?_cons_succ, List.getElem?_cons_zero]; rfl)
            case k1_rb3 => kernel_rfl
            case k2_rb3 => kernel_rfl
            case k3_rb3 => kernel_rfl
            case g_rb3 => rfl
            case y_rb3 => (intro w hSw; (try dsimp only at hSw); first | (go_simp; done) | (go_simp; with_reducible rfl))
            (try simp only [Act.put, List.setIfInBounds_toArray, List.set_cons_zero, List.set_cons_succ])
            refine wpAnyH_take (i := 4) (oi := ?orb4) (v := ?vrb4) ?hi_rb4 ?k1_rb4 ?k2_rb4 ?k3_rb4 (fun _ _ _ h => h) (Or.inl ⟨?g_rb4, ?y_rb4⟩) (by assumption) ?r_rb4
            case hi_rb4 => (simp only [List.getElem?_toArray, List.getElem?_cons_succ, List.getElem?_cons_zero]; rfl)
            case k1_rb4 => kernel_rfl
            case k2_rb4 => kernel_rfl
            case k3_rb4 => kernel_rfl
            case g_rb4 => rfl
            case y_rb4 => (intro w hSw; (try dsimp only at hSw); first | (go_simp; done) | (go_simp; with_reducible rfl))
            (try simp only [Act.put, List.setIfInBounds_toArray, List.set_cons_zero, List.set_cons_succ])
            refine wpAnyH_take (i := 5) (oi := ?orb5) (v := ?vrb5) ?hi_rb5 ?k1_rb5 ?k2_rb5 ?k3_rb5 (fun _ _ _ h => h) (Or.inl ⟨?g_rb5, ?y_rb5⟩) (by assumption) ?r_rb5
            case hi_rb5 => (simp only [List.getElem?_toArray, List.getElem?_cons_succ, List.getElem?_cons_zero]; rfl)
            case k1_rb5 => kernel_rfl
            case k2_rb5 => kernel_rfl
            case k3_rb5 => kernel_rfl
            case g_rb5 => rfl
            case y_rb5 => (intro w hSw; (try dsimp only at hSw); first | (go_simp; done) | (go_simp; with_reducible rfl))
            (try simp only [Act.put, List.setIfInBounds_toArray, List.set_cons_zero, List.set_cons_succ])
            refine wpAnyH_take (i := 6) (oi := ?orb6) (v := ?vrb6) ?hi_rb6 ?k1_rb6 ?k2_rb6 ?k3_rb6 (fun _ _ _ h => h) (Or.inl ⟨?g_rb6, ?y_rb6⟩) (by assumption) ?r_rb6
            case hi_rb6 => (simp only [List.getElem?_toArray, List.getElem?_cons_succ, List.getElem?_cons_zero]; rfl)
            case k1_rb6 => kernel_rfl
            case k2_rb6 => kernel_rfl
            case k3_rb6 => kernel_rfl
            case g_rb6 => rfl
            case y_rb6 => (intro w hSw; (try dsimp only at hSw); first | (go_simp; done) | (go_simp; with_reducible rfl))
            (try simp only [Act.put, List.setIfInBounds_toArray, List.set_cons_zero, List.set_cons_succ])
            refine wpAnyH_take (i := 7) (oi := ?orb7) (v := ?vrb7) ?hi_rb7 ?k1_rb7 ?k2_rb7 ?k3_rb7 (fun _ _ _ h => h) (Or.inl ⟨?g_rb7, ?y_rb7⟩) (by assumption) ?r_rb7
            case hi_rb7 => (simp only [List.getElem?_toArray, List.getElem?_cons_succ, List.getElem?_cons_zero]; rfl)
            case k1_rb7 => kernel_rfl
            case k2_rb7 => kernel_rfl
            case k3_rb7 => kernel_rfl
            case g_rb7 => rfl
            case y_rb7 => (intro w hSw; (try dsimp only at hSw); first | (go_simp; done) | (go_simp; with_reducible rfl))
            (try simp only [Act.put, List.setIfInBounds_toArray, List.set_cons_zero, List.set_cons_succ])
            refine wpAnyH_take (i := 8) (oi := ?orb8) (v := ?vrb8) ?hi_rb8 ?k1_rb8 ?k2_rb8 ?k3_rb8 (fun _ _ _ h => h) (Or.inl ⟨?g_rb8, ?y_rb8⟩) (by assumption) ?r_rb8
            case hi_rb8 => (simp only [List.getElem?_toArray, List.getElem?_cons_succ, List.getElem?_cons_zero]; rfl)
            case k1_rb8 => kernel_rfl
            case k2_rb8 => kernel_rfl
            case k3_rb8 => kernel_rfl
            case g_rb8 => rfl
            case y_rb8 => (intro w hSw; (try dsimp only at hSw); first | (go_simp; done) | (go_simp; with_reducible rfl))
            (try simp only [Act.put, List.setIfInBounds_toArray, List.set_cons_zero, List.set_cons_succ])
            refine wpAnyH_take (i := 9) (oi := ?orb9) (v := ?vrb9) ?hi_rb9 ?k1_rb9 ?k2_rb9 ?k3_rb9 (fun _ _ _ h => h) (Or.inl ⟨?g_rb9, ?y_rb9⟩) (by assumption) ?r_rb9
            case hi_rb9 => (simp only [List.getElem?_toArray, List.getElem?_cons_succ, List.getElem?_cons_zero]; rfl)
            case k1_rb9 => kernel_rfl
            case k2_rb9 => kernel_rfl
            case k3_rb9 => kernel_rfl
            case g_rb9 => rfl
            case y_rb9 => (intro w hSw; (try dsimp only at hSw); first | (go_simp; done) | (go_simp; with_reducible rfl))
            (try simp only [Act.put, List.setIfInBounds_toArray, List.set_cons_zero, List.set_cons_succ])
            refine wpAnyH_done (by kernel_rfl) ?_ _
            refine NoPanic.normal ?_
            clear y0 y1 p0 p1 hHeld
            refine gen2 (φ := fun W => Exit.then _ _ Exit.normal _ W) (P := fun W => Below wr.heap.size wr W) (by with_reducible repeat (first | exact Below.refl _ _ | apply pw_below_drewN | apply Below.drew)) ?_
            rintro V hV
            have C1 := Lib.hid (CW.out.next hV)
            clear hV CW
            have DN := Lib.hid (show ddT l (k + 1) = l.take (k + 1) by
              rw [ddT_more HY.out (fun h0 h1 => by rw [← HJ.out, HP.out] at h1; exact NE.out (Option.some.inj h1).symm), DK.out]
              obtain ⟨hl2, e⟩ := List.getElem?_eq_some_iff.1 HY.out
              rw [List.take_succ_eq_append_getElem hl2, e])
            go_wp2
            go_roundw
            case rel => exact ⟨k + 1, by omega, by omega, by go_num, DN, C1⟩
            case measure =>
              simp only [cntM]
              omega
        · have NE := Lib.hid (show y ≠ p from fun e => by obtain ⟨z0, z1, z2, z3⟩ := EA.out; exact q0 (by rw [z0, z2, e]))
          clear EA
          go_upto_region 6 with (fail)
          refine wp_region_noPanic ?_
          refine wp_region_held_drew (S := fun w' => Q4c g (k * 2) (j * 2) (.int .i64 a0) (.int .i64 a1) (.int .i64 c0) (.int .i64 c1) w') ?hm_rc ?hS_rc (fun hHeld => ?_)
          case hm_rc => kernel_rfl
          case hS_rc => exact Q4c.next ⟨y0, y1, p0, p1⟩ (by with_reducible repeat (first | exact Below.refl _ _ | apply pw_below_drewN | apply Below.drew | apply below_alloc))
          refine wpAnyH_take (i := 0) (oi := ?orc0) (v := ?vrc0) ?hi_rc0 ?k1_rc0 ?k2_rc0 ?k3_rc0 (fun _ _ _ h => h) (Or.inl ⟨?g_rc0, ?y_rc0⟩) (by assumption) ?r_rc0
          case hi_rc0 => (simp only [List.getElem?_toArray, List.getElem?_cons_succ, List.getElem?_cons_zero]; rfl)
          case k1_rc0 => kernel_rfl
          case k2_rc0 => kernel_rfl
          case k3_rc0 => kernel_rfl
          case g_rc0 => rfl
          case y_rc0 => (intro w hSw; (try dsimp only at hSw); first | (go_simp; done) | (go_simp; with_reducible rfl))
          (try simp only [Act.put, List.setIfInBounds_toArray, List.set_cons_zero, List.set_cons_succ])
          refine wpAnyH_take (i := 1) (oi := ?orc1) (v := ?vrc1) ?hi_rc1 ?k1_rc1 ?k2_rc1 ?k3_rc1 (fun _ _ _ h => h) (Or.inl ⟨?g_rc1, ?y_rc1⟩) (by assumption) ?r_rc1
          case hi_rc1 => (simp only [List.getElem?_toArray, List.getElem?_cons_succ, List.getElem?_cons_zero]; rfl)
          case k1_rc1 => kernel_rfl
          case k2_rc1 => kernel_rfl
          case k3_rc1 => kernel_rfl
          case g_rc1 => rfl
          case y_rc1 => (intro w hSw; (try dsimp only at hSw); first | (go_simp; done) | (go_simp; with_reducible rfl))
          (try simp only [Act.put, List.setIfInBounds_toArray, List.set_cons_zero, List.set_cons_succ])
          refine wpAnyH_take (i := 2) (oi := ?orc2) (v := ?vrc2) ?hi_rc2 ?k1_rc2 ?k2_rc2 ?k3_rc2 (fun _ _ _ h => h) (Or.inl ⟨?g_rc2, ?y_rc2⟩) (by assumption) ?r_rc2
          case hi_rc2 => (simp only [List.getElem?_toArray, List.getElem?_cons_succ, List.getElem?_cons_zero]; rfl)
          case k1_rc2 => kernel_rfl
          case k2_rc2 => kernel_rfl
          case k3_rc2 => kernel_rfl
          case g_rc2 => rfl
          case y_rc2 => (intro w hSw; (try dsimp only at hSw); first | (go_simp; done) | (go_simp; with_reducible rfl))
          (try simp only [Act.put, List.setIfInBounds_toArray, List.set_cons_zero, List.set_cons_succ])
          refine wpAnyH_take (i := 3) (oi := ?orc3) (v := ?vrc3) ?hi_rc3 ?k1_rc3 ?k2_rc3 ?k3_rc3 (fun _ _ _ h => h) (Or.inl ⟨?g_rc3, ?y_rc3⟩) (by assumption) ?r_rc3
          case hi_rc3 => (simp only [List.getElem?_toArray, List.getElem?_cons_succ, List.getElem?_cons_zero]; rfl)
          case k1_rc3 => kernel_rfl
          case k2_rc3 => kernel_rfl
          case k3_rc3 => kernel_rfl
          case g_rc3 => rfl
          case y_rc3 => (intro w hSw; (try dsimp only at hSw); first | (go_simp; done) | (go_simp; with_reducible rfl))
          (try simp only [Act.put, List.setIfInBounds_toArray, List.set_cons_zero, List.set_cons_succ])
          refine wpAnyH_take (i := 4) (oi := ?orc4) (v := ?vrc4) ?hi_rc4 ?k1_rc4 ?k2_rc4 ?k3_rc4 (fun _ _ _ h => h) (Or.inl ⟨?g_rc4, ?y_rc4⟩) (by assumption) ?r_rc4
          case hi_rc4 => (simp only [List.getElem?_toArray, List.getElem?_cons_succ, List.getElem?_cons_zero]; rfl)
          case k1_rc4 => kernel_rfl
          case k2_rc4 => kernel_rfl
          case k3_rc4 => kernel_rfl
          case g_rc4 => rfl
          case y_rc4 => (intro w hSw; (try dsimp only at hSw); first | (go_simp; done) | (go_simp; with_reducible rfl))
          (try simp only [Act.put, List.setIfInBounds_toArray, List.set_cons_zero, List.set_cons_succ])
          refine wpAnyH_take (i := 5) (oi := ?orc5) (v := ?vrc5) ?hi_rc5 ?k1_rc5 ?k2_rc5 ?k3_rc5 (fun _ _ _ h => h) (Or.inl ⟨?g_rc5, ?y_rc5⟩) (by assumption) ?r_rc5
          case hi_rc5 => (simp only [List.getElem?_toArray, List.getElem?_cons_succ, List.getElem?_cons_zero]; rfl)
          case k1_rc5 => kernel_rfl
          case k2_rc5 => kernel_rfl
          case k3_rc5 => kernel_rfl
          case g_rc5 => rfl
          case y_rc5 => (intro w hSw; (try dsimp only at hSw); first | (go_simp; done) | (go_simp; with_reducible rfl))
          (try simp only [Act.put, List.setIfInBounds_toArray, List.set_cons_zero, List.set_cons_succ])
          refine wpAnyH_take (i := 6) (oi := ?orc6) (v := ?vrc6) ?hi_rc6 ?k1_rc6 ?k2_rc6 ?k3_rc6 (fun _ _ _ h => h) (Or.inl ⟨?g_rc6, ?y_rc6⟩) (by assumption) ?r_rc6
          case hi_rc6 => (simp only [List.getElem?_toArray, List.getElem?_cons_succ, List.getElem?_cons_zero]; rfl)
          case k1_rc6 => kernel_rfl
          case k2_rc6 => kernel_rfl
          case k3_rc6 => kernel_rfl
          case g_rc6 => rfl
          case y_rc6 => (intro w hSw; (try dsimp only at hSw); first | (go_simp; done) | (go_simp; with_reducible rfl))
          (try simp only [Act.put, List.setIfInBounds_toArray, List.set_cons_zero, List.set_cons_succ])
          refine wpAnyH_take (i := 7) (oi := ?orc7) (v := ?vrc7) ?hi_rc7 ?k1_rc7 ?k2_rc7 ?k3_rc7 (fun _ _ _ h => h) (Or.inl ⟨?g_rc7, ?y_rc7⟩) (by assumption) ?r_rc7
          case hi_rc7 => (simp only [List.getElem?_toArray, List.getElem?_cons_succ, List.getElem?_cons_zero]; rfl)
          case k1_rc7 => kernel_rfl
          case k2_rc7 => kernel_rfl
          case k3_rc7 => kernel_rfl
          case g_rc7 => rfl
          case y_rc7 => (intro w hSw; (try dsimp only at hSw); first | (go_simp; done) | (go_simp; with_reducible rfl))
          (try simp only [Act.put, List.setIfInBounds_toArray, List.set_cons_zero, List.set_cons_succ])
          refine wpAnyH_take (i := 8) (oi := ?orc8) (v := ?vrc8) ?hi_rc8 ?k1_rc8 ?k2_rc8 ?k3_rc8 (fun _ _ _ h => h) (Or.inl ⟨?g_rc8, ?y_rc8⟩) (by assumption) ?r_rc8
          case hi_rc8 => (simp only [List.getElem?_toArray, List.getElem?_cons_succ, List.getElem?_cons_zero]; rfl)
          case k1_rc8 => kernel_rfl
          case k2_rc8 => kernel_rfl
          case k3_rc8 => kernel_rfl
          case g_rc8 => rfl
          case y_rc8 => (intro w hSw; (try dsimp only at hSw); first | (go_simp; done) | (go_simp; with_reducible rfl))
          (try simp only [Act.put, List.setIfInBounds_toArray, List.set_cons_zero, List.set_cons_succ])
          refine wpAnyH_take (i := 9) (oi := ?orc9) (v := ?vrc9) ?hi_rc9 ?k1_rc9 ?k2_rc9 ?k3_rc9 (fun _ _ _ h => h) (Or.inl ⟨?g_rc9, ?y_rc9⟩) (by assumption) ?r_rc9
          case hi_rc9 => (simp only [List.getElem?_toArray, List.getElem?_cons_succ, List.getElem?_cons_zero]; rfl)
          case k1_rc9 => kernel_rfl
          case k2_rc9 => kernel_rfl
          case k3_rc9 => kernel_rfl
          case g_rc9 => rfl
          case y_rc9 => (intro w hSw; (try dsimp only at hSw); first | (go_simp; done) | (go_simp; with_reducible rfl))
          (try simp only [Act.put, List.setIfInBounds_toArray, List.set_cons_zero, List.set_cons_succ])
          refine wpAnyH_done (by kernel_rfl) ?_ _
          refine NoPanic.normal ?_
          clear y0 y1 p0 p1 hHeld
          refine gen2 (φ := fun W => Exit.then _ _ Exit.normal _ W) (P := fun W => Below wr.heap.size wr W) (by with_reducible repeat (first | exact Below.refl _ _ | apply pw_below_drewN | apply Below.drew)) ?_
          rintro V hV
          have C1 := Lib.hid (CW.out.next hV)
          clear hV CW
          have DN := Lib.hid (show ddT l (k + 1) = l.take (k + 1) by
            rw [ddT_more HY.out (fun h0 h1 => by rw [← HJ.out, HP.out] at h1; exact NE.out (Option.some.inj h1).symm), DK.out]
            obtain ⟨hl2, e⟩ := List.getElem?_eq_some_iff.1 HY.out
            rw [List.take_succ_eq_append_getElem hl2, e])
          go_wp2
          go_roundw
          case rel => exact ⟨k + 1, by omega, by omega, by go_num, DN, C1⟩
          case measure =>
            simp only [cntM]
            omega
      · have d2 : decide ((k : Int) < (l.length : Int)) = false := by simp; omega
        obtain rfl : k = l.length := by omega
        rw [List.take_length] at DK
        go_wp2
        go_ret
        exact ⟨_, rfl, by rw [DK.out]; exact CW.out.row, CW.out.grew⟩
end Go.Proofs.YtjphmebhofkhcaaDoor.Mk
/- Marks: the walks of slices.Clone at sites and of moved. Conditions: at most 2^40 sites. -/
namespace Go.Proofs.YtjphmebhofkhcaaDoor.Mk
open Go.RowKit Go.Proofs.YtjphmebhofkhcaaDoorW.PrintWords Go.Proofs.YtjphmebhofkhcaaDoorW.PrintLast Go.Proofs.YtjphmebhofkhcaaDoorW.PrintMore Go.Proofs.YtjphmebhofkhcaaDoor.PSegAll Go.Proofs.YtjphmebhofkhcaaDoor.Pure
set_option linter.unusedVariables false
set_option linter.unusedSimpArgs false
theorem infoC70 : (Tryd.prog.info? 70).map (fun i => (i.zero, i.size, i.bytes)) = some (some (.agg #[.int .i64 0, .int .i64 0]), 2, 16) := by kernel_rfl
theorem k70_M_of_K {w : World} {base : Nat} {ok : Nat → Prop} (x : S70) (cs : List Value) (h : k70.K w x cs) : k70.M w base ok x cs := by
  obtain rfl := k70_open h
  exact k70_mkM _ _ _ _
set_option maxHeartbeats 800000 in
set_option maxRecDepth 100000 in
theorem clone70 (A : Option Addr) (c : Nat) (xs : List S70) (w : World) (hr : Kd.C k70 w A xs.length xs) (hc : xs.length ≤ c) (hl : xs.length * 16 ≤ 140737488355328) :
    Calls Tryd.prog 34 #[.slice A xs.length c] w fun e w' => ∃ v, e = .returned v ∧ Kd.R k70 70 w' w.heap.size (fun _ => True) v xs ∧ Below w.heap.size w w' := by
  have qn : ∀ (w : World) (a : Option Addr) (n c : Nat), (binOp .eql 23 (.slice a n c) (.slice none 0 0)).run Tryd.prog w = .ok (.bool a.isNone) w := fun w a n c => Lib.run_eql_slice_nil w _ _ a n c 0 0 Tryd.underlying23
  have HR := Lib.hid hr
  have HC := Lib.hid hc
  have HL := Lib.hid hl
  cases A with
  | none =>
    have hx : xs = [] := by
      rcases Nat.eq_zero_or_pos xs.length with h0 | h0
      · exact List.length_eq_zero_iff.1 h0
      · obtain ⟨_, e, _⟩ := hr.2.2 h0
        cases e
    clear hr hc hl
    go_enter Tryd.func34, Tryd.ntmps34
    go_wp2
    go_ret
    subst hx
    exact ⟨_, rfl, Kd.R_nil _ _ _ _ _, Below.refl _ _⟩
  | some ad =>
    clear hr hc hl
    go_enter Tryd.func34, Tryd.ntmps34
    go_wp2_with (first
      | ((with_reducible refine gate_dst (N := 5) rfl ?_)
         refine Kd.R_lit k70 _ 70 ?hg (N := 5) ?hd (xs := ([] : List S70)) (inner := []) (ok := fun _ => True) (okp := fun _ => True) ?hr ?hp (fun _ hk => hk) trivial (Below.refl _ _) (Nat.le_refl _) (by simp) ?_
         (case hd => rfl); (case hg => rfl); (case hr => first | (go_simp; done) | (go_simp; rfl)); (case hp => exact Reps.none _ _)
         intro v1 w1 HO HB hg hat; have HO1 := Lib.hid HO; have HB1 := Lib.hid HB; clear HO HB hg hat)
      | ((with_reducible refine gate_dst (N := 7) rfl ?_)
         refine Kd.R_append_rows k70 _ ?hg (.tmp 5) (.tmp 6) 23 70 (.agg #[.int .i64 0, .int .i64 0]) 16 rfl Tryd.underlying23 infoC70 rfl (by decide) (by decide) _ [] xs (some ad) xs.length c (fun _ => True) (fun k => some k ≠ v1.ownBlock) rfl rfl HO1.out (Kd.C_below HR.out HB1.out) (fun x cs h => k70_M_of_K x cs h) (fun _ h => ⟨trivial, h⟩) (fun _ _ => trivial) HB1.out (HB1.out.size) (by have := HL.out; simpa using this) ?_
         (case hg => rfl)
         intro v2 w2 HO HB hg hat; have HO2 := Lib.hid HO; have HB2 := Lib.hid HB; clear HO HB hg hat))
    go_ret
    exact ⟨_, rfl, HO2.out, HB2.out⟩
theorem below_grown {w W W' : World} {v : Value} (hb : Below w.heap.size w W) (hg : W.grownBy W' v.ownBlock) (hv : ∀ k, v.ownBlock = some k → w.heap.size ≤ k) : Below w.heap.size w W' :=
  ⟨hg.os.trans hb.os, hg.tape.trans hb.tape, hg.output.trans hb.output, Nat.le_trans hb.size hg.size, fun k hk => (hg.block k (Nat.lt_of_lt_of_le hk hb.size) (fun e => by have := hv k e.symm; omega)).trans (hb.block k hk)⟩
theorem own_base {W : World} {base : Nat} {ok : Nat → Prop} {v : Value} {ys : List SY} (h : Kd.R kY 70 W base ok v ys) : ∀ k, v.ownBlock = some k → base ≤ k := by
  obtain ⟨_, inner, ⟨_, ho⟩, _⟩ := h
  intro k hk
  rcases ho with ⟨hv, _⟩ | ⟨g, cap, cur, hv, hb, _⟩
  · subst hv; cases hk
  · subst hv
    injection hk with hk
    have hk' : g = k := hk
    omega
/-- What is asked of a function on places, in every world behind w. -/
abbrev PredP (w : World) (g : Nat) (lb : Array Value) (f : Int → Int) : Prop :=
  ∀ (W : World) (p : Int), Below w.heap.size w W → Calls Tryd.prog g (#[Value.int .i64 p] ++ lb) W fun e w' => e = .returned (.int .i64 (f p)) ∧ Below W.heap.size W w'
def mvY (f : Int → Int) (y : SY) : SY := ⟨y.f0, f y.f1⟩
theorem own_set1 {W : World} {base : Nat} {g n c : Nat} {ys : List SY} (h : Kd.R kY 70 W base (fun _ => True) (.slice (some ⟨g, 0, none⟩) n c) ys) {i : Nat} {y : SY} (hy : ys[i]? = some y) (z : Int) :
    Kd.R kY 70 (W.setCell ⟨g, i * 2 + 1, none⟩ (.int .i64 z)) base (fun _ => True) (.slice (some ⟨g, 0, none⟩) n c) (ys.set i ⟨y.f0, z⟩) ∧ W.grownBy (W.setCell ⟨g, i * 2 + 1, none⟩ (.int .i64 z)) (some g) := by
  have hn := (Kd.R_reads' h).1
  have hi : i < n := by have := (List.getElem?_eq_some_iff.1 hy).1; omega
  obtain ⟨y0, y1⟩ := own_at h hy
  have hcc : ∀ j u, ([.int .i64 y.f0, .int .i64 y.f1] : List Value)[j]? = some u → W.cell? ⟨g, (i : Int).toNat * kY.sz + j, none⟩ = some u := by
    intro j u hu
    have e : (i : Int).toNat * kY.sz = i * 2 := by rw [Int.toNat_natCast]; rfl
    rw [e]
    rcases j with _ | _ | j
    · simp at hu; rw [← hu]; exact y0
    · simp at hu; rw [← hu]; exact y1
    · simp at hu
  have hs := Kd.R_seg (j := 1) (seg := [.int .i64 z]) (c := [.int .i64 y.f0, .int .i64 y.f1]) h (i : Int) (by omega) (by omega) rfl hcc (show (2 : Nat) ≤ 2 from Nat.le_refl _) (x' := ⟨y.f0, z⟩) (okp := fun k => True ∧ k ≠ g) (k70_mkM _ _ _ _) (fun _ h => h)
  have e : W.setCells g ((i : Int).toNat * kY.sz + 1) [.int .i64 z] = W.setCell ⟨g, i * 2 + 1, none⟩ (.int .i64 z) := by rw [Int.toNat_natCast]; rfl
  rw [e, Int.toNat_natCast] at hs
  exact hs
structure MvZ (w : World) (v : Value) (cur : List SY) (W : World) : Prop where
  b : Below w.heap.size w W
  row : Kd.R kY 70 W w.heap.size (fun _ => True) v cur
theorem MvZ.next {w W W' : World} {v : Value} {cur : List SY} (h : MvZ w v cur W) (hb : Below W.heap.size W W') : MvZ w v cur W' := ⟨below_step h.b hb, Kd.R_below h.row hb⟩
def RetMv (ys : List SY) (w : World) (e : Ending) (w' : World) : Prop := ∃ v, e = .returned v ∧ Kd.R kY 70 w' w.heap.size (fun _ => True) v ys ∧ Below w.heap.size w w'
theorem mv_len (f : Int → Int) (ys : List SY) (kk : Nat) (h : kk ≤ ys.length) : ((ys.take kk).map (mvY f) ++ ys.drop kk).length = ys.length := by simp; omega
theorem mv_at {f : Int → Int} {ys : List SY} {kk : Nat} {y : SY} (h : ys[kk]? = some y) : ((ys.take kk).map (mvY f) ++ ys.drop kk)[kk]? = some y := by
  have hl := (List.getElem?_eq_some_iff.1 h).1
  rw [List.getElem?_append_right (by simp; omega)]
  simp only [List.length_map, List.length_take]
  rw [Nat.min_eq_left (by omega), Nat.sub_self, List.getElem?_drop, Nat.add_zero, h]
theorem mv_set {f : Int → Int} {ys : List SY} {kk : Nat} {y : SY} (h : ys[kk]? = some y) : ((ys.take kk).map (mvY f) ++ ys.drop kk).set kk (mvY f y) = (ys.take (kk + 1)).map (mvY f) ++ ys.drop (kk + 1) := by
  obtain ⟨hl, e⟩ := List.getElem?_eq_some_iff.1 h
  rw [List.set_append_right _ _ (by simp; omega)]
  simp only [List.length_map, List.length_take]
  rw [Nat.min_eq_left (by omega), Nat.sub_self, List.drop_eq_getElem_cons hl, List.set_cons_zero, List.take_succ_eq_append_getElem hl, List.map_append, List.append_assoc, e]
  rfl
set_option maxRecDepth 1000000 in
set_option maxHeartbeats 8000000 in
theorem moved_calls (A : Option Addr) (c : Nat) (ys : List SY) (g : Nat) (lb : Array Value) (f : Int → Int) (w : World) (eg : ∀ args w, (callFunc g args).run Tryd.prog w = .ok (.enter g args) w) (hp : PredP w g lb f) (hr : Kd.C kY w A ys.length ys) (hc : ys.length ≤ c) (hl : ys.length ≤ 1099511627776) :
    Calls Tryd.prog 68 #[.slice A ys.length c, .func (.func g) #[] lb] w (RetMv (normY (ys.map (mvY f))) w) := by
  have HR := Lib.hid hr
  have HP := Lib.hid hp
  clear hr hp
  go_enter Tryd.func68, Tryd.ntmps68
  go_wp2_with fail
  (go_at_call 34; refine (clone70 A c ys _ HR.out hc (by omega)).mono ?_; rintro e w1 ⟨v, rfl, hr1, hb1⟩)
  obtain ⟨A1, c1, e1⟩ := Kd.R_slice hr1
  subst e1
  have Z1 := Lib.hid (show MvZ w (.slice A1 ys.length c1) ys w1 from ⟨hb1, hr1⟩)
  clear hr1 hb1
  go_wp2
  go_loopw [11] (fun s11 wr => ∃ kk : Nat, kk ≤ ys.length ∧ s11 = .int .i64 (kk : Int) ∧ Hid (MvZ w (.slice A1 ys.length c1) ((ys.take kk).map (mvY f) ++ ys.drop kk) wr)) (fun s11 _ => ys.length - cntM s11)
  case atStart => exact ⟨0, Nat.zero_le _, rfl, by simpa using Z1⟩
  case round =>
    obtain ⟨kk, hkk, rfl, ZW⟩ := hrel
    by_cases hlt : kk < ys.length
    · have d1 : decide ((kk : Int) < (ys.length : Int)) = true := by simp; omega
      have b1 : (0 : Int) ≤ (kk : Int) := by omega
      have b2 : (kk : Int) < (ys.length : Int) := by omega
      have w1_ : IntKind.i64.wrap ((kk : Int) + 1) = (kk : Int) + 1 := IntWalk.i64_in _ (by omega)
      obtain ⟨y, hy⟩ : ∃ y, ys[kk]? = some y := ⟨_, List.getElem?_eq_getElem hlt⟩
      have HY := Lib.hid hy
      obtain ⟨g1, cap, he, hbase, hgl, _⟩ := Kd.R_form ZW.out.row (by rw [mv_len f ys kk hkk]; omega)
      injection he with e1 e2 e3
      subst e1; subst e3
      obtain ⟨y0, y1⟩ := own_at ZW.out.row (mv_at (f := f) hy)
      clear hy e2 hbase hgl
      go_wp2_with fail
      (refine (HP.out _ y.f1 ZW.out.b).mono ?_; rintro e w5 ⟨rfl, hb5⟩)
      have Z5 := Lib.hid (ZW.out.next hb5)
      clear hb5 y0 y1
      obtain ⟨y0, y1⟩ := own_at Z5.out.row (mv_at (f := f) HY.out)
      have z1 := own_fr Z5.out.row (kk * 2 + 1)
      go_upto_region 6 with fail
      refine gen2 (φ := fun W => Code.wp _ _ _ _ W) (P := fun W => MvZ w (.slice (some ⟨g1, 0, none⟩) ys.length c1) ((ys.take (kk + 1)).map (mvY f) ++ ys.drop (kk + 1)) W) ⟨below_grown (v := .slice (some ⟨g1, 0, none⟩) ys.length c1) Z5.out.b (own_set1 Z5.out.row (mv_at (f := f) HY.out) (f y.f1)).2 (own_base Z5.out.row), by have h := (own_set1 Z5.out.row (mv_at (f := f) HY.out) (f y.f1)).1; rw [show (⟨y.f0, f y.f1⟩ : SY) = mvY f y from rfl, mv_set HY.out] at h; exact h⟩ ?_
      rintro V hV
      have ZV := Lib.hid hV
      clear hV y0 y1 z1
      go_wp2
      go_roundw
      case rel => exact ⟨kk + 1, by omega, by go_num, ZV⟩
      case measure =>
        simp only [cntM]
        omega
    · have d1 : decide ((kk : Int) < (ys.length : Int)) = false := by simp; omega
      obtain rfl : kk = ys.length := by omega
      have LM : Hid ((ys.map (mvY f)).length ≤ 1099511627776) := Lib.hid (by rw [List.length_map]; exact hl)
      rw [List.take_length, List.drop_length, List.append_nil] at ZW
      go_wp2_with fail
      (go_at_call 87; refine (sort_calls _ _ _ _ _ ZW.out.row (by have := LM.out; omega)).mono ?_; rintro e w6 ⟨zs, rfl, hpm, hso, hr6, hg6⟩)
      have B6 := Lib.hid (below_grown ZW.out.b hg6 (own_base ZW.out.row))
      have R6 := Lib.hid hr6
      have LZ : Hid (zs.length ≤ 1099511627776) := Lib.hid (by rw [hpm.length_eq]; exact LM.out)
      have EN := Lib.hid (show ddT zs zs.length = normY (ys.map (mvY f)) by rw [ddT_norm hso, normY_perm hpm])
      clear hr6 hg6 hpm hso
      go_wp2_with fail
      (go_at_call 88; refine (compact_calls _ zs _ _ R6.out LZ.out).mono ?_; rintro e w7 ⟨v7, rfl, hr7, hg7⟩)
      have B7 := Lib.hid (below_grown B6.out hg7 (own_base R6.out))
      have R7 := Lib.hid hr7
      clear hr7 hg7 R6
      go_wp2
      go_ret
      exact ⟨_, rfl, by rw [← EN.out]; exact R7.out, B7.out⟩
end Go.Proofs.YtjphmebhofkhcaaDoor.Mk
/- Marks: the walk of Put. Conditions: at most 2^40 spans and sites, places and letters below 2^61. -/
namespace Go.Proofs.YtjphmebhofkhcaaDoor.Mk
open Go.RowKit Go.Proofs.YtjphmebhofkhcaaDoorW.PrintWords Go.Proofs.YtjphmebhofkhcaaDoorW.PrintLast Go.Proofs.YtjphmebhofkhcaaDoorW.PrintMore Go.Proofs.YtjphmebhofkhcaaDoor.PSegAll Go.Proofs.YtjphmebhofkhcaaDoor.Pure
set_option linter.unusedVariables false
set_option linter.unusedSimpArgs false
attribute [local go_sem] max2_int min2_int max_two min_two
abbrev kSp := k67
theorem R_moveT {α : Type} {d : Kd α} {e : Nat} {w w1 : World} {base : Nat} {ok : Nat → Prop} {v : Value} {xs : List α} (hE : d.E = []) (h : d.R e w base ok v xs) (m : ∀ (g : Nat) (cs : Array Value), w.heap[g]? = some (.cells cs e (0, 0)) → w1.heap[g]? = w.heap[g]?) : d.R e w1 base ok v xs :=
  Kd.R_mono (Kd.R_move (Kd.R_bound h) (fun k hk => by obtain ⟨_, _, _, q, hq, cs, hc⟩ := hk; rw [hE] at hq; have := List.mem_singleton.1 hq; subst this; exact m k cs hc)) (fun _ hk => hk.1)
def RetAdd (v : Value) (o : List Sp) (base : Nat) (w : World) (e : Ending) (w' : World) : Prop := ∃ v', e = .returned v' ∧ Kd.R kSp 67 w' base (fun _ => True) v' o ∧ w.grownBy w' v.ownBlock ∧ ∀ k, v'.ownBlock = some k → some k = v.ownBlock ∨ w.heap.size ≤ k
theorem add_calls (v : Value) (o : List Sp) (s : Sp) (w0 w : World) (hB : Below w0.heap.size w0 w) (h : Kd.R kSp 67 w w0.heap.size (fun _ => True) v o) (hl : o.length < 5864062014805) :
    Calls Tryd.prog 67 #[v, .agg #[.int .i64 s.f0, .int .i64 s.f1, .int .i64 s.f2]] w (RetAdd v (addL o s) w0.heap.size w) := by
  have h1 : Kd.R kSp 67 w w0.heap.size (fun k => some k = v.ownBlock) v o := ⟨fun k hk => hk.symm, h.2.imp_ (fun x c hM => by rw [k67_openM hM]; exact k67_mkM _ _ _ _)⟩
  refine (marks_add.calls (fun k => some k = v.ownBlock) v o s.f0 s.f1 s.f2 (addL o s) w0 w hB h1 (by rw [marks_add_eq o s.f0 s.f1 s.f2 hl])).mono ?_
  rintro e w' ⟨v', rfl, hr, hb, hk⟩
  exact ⟨v', rfl, Kd.R_mono hr (fun _ _ => trivial), ⟨hb.os.trans hB.os.symm, hb.tape.trans hB.tape.symm, hb.output.trans hB.output.symm, hk.1, fun k h2 hne => hk.2 k h2 hne⟩, hr.1⟩
/-- Where a place is behind letters that are put. -/
def toP (a k : Int) (p : Int) : Int := if p > a then IntKind.i64.wrap (p + k) else p
set_option maxRecDepth 100000 in
set_option maxHeartbeats 800000 in
theorem put1_calls (a k p : Int) (ga gk : Nat) (w : World) (ha : w.cell? ⟨ga, 0, none⟩ = some (.int .i64 a)) (hk : w.cell? ⟨gk, 0, none⟩ = some (.int .i64 k)) :
    Calls Tryd.prog 69 #[.int .i64 p, .pointer (some ⟨ga, 0, none⟩), .pointer (some ⟨gk, 0, none⟩)] w fun e w' => e = .returned (.int .i64 (toP a k p)) ∧ Below w.heap.size w w' := by
  unfold toP
  go_enter Tryd.func69, Tryd.ntmps69
  by_cases h : p > a
  · have d' : decide (a < p) = true := by simpa using h
    rw [if_pos h]
    generalize hz : IntKind.i64.wrap (p + k) = z
    go_wp2
    go_ret
    exact ⟨rfl, Below.refl _ _⟩
  · have d' : decide (a < p) = false := by simpa using h
    rw [if_neg h]
    go_wp2
    go_ret
    exact ⟨rfl, Below.refl _ _⟩
theorem eg_put1 : ∀ args w, (callFunc 69 args).run Tryd.prog w = .ok (.enter 69 args) w := fun args w => by kernel_rfl
theorem putGo_snoc (a k m : Int) : ∀ (l : List Sp) (s : Sp) (o : List Sp) (d : Bool), putGo a k m (l ++ [s]) o d = putStep a k m (putGo a k m l o d).1 (putGo a k m l o d).2 s
  | [], s, o, d => rfl
  | x :: r, s, o, d => by simp only [List.cons_append, putGo]; exact putGo_snoc a k m r s _ _
theorem putGo_take {a k m : Int} {xs : List Sp} {j : Nat} {x : Sp} (h : xs[j]? = some x) : putGo a k m (xs.take (j + 1)) [] false = putStep a k m (putGo a k m (xs.take j) [] false).1 (putGo a k m (xs.take j) [] false).2 x := by
  obtain ⟨hl, e⟩ := List.getElem?_eq_some_iff.1 h
  rw [List.take_succ_eq_append_getElem hl, e, putGo_snoc]
theorem putStep_len (a k m : Int) (o : List Sp) (d : Bool) (s : Sp) : (putStep a k m o d s).1.length ≤ o.length + 3 := by
  unfold putStep addA addB
  have h1 := addL_length o ⟨s.f0, s.f1, min s.f2 a⟩
  have h2 := addL_length (addL o ⟨s.f0, s.f1, min s.f2 a⟩) (freshS a k m)
  split
  · split
    · have h3 := addL_length (addL o ⟨s.f0, s.f1, min s.f2 a⟩) ⟨s.f0, max s.f1 a + k, s.f2 + k⟩
      dsimp only
      omega
    · have h3 := addL_length (addL (addL o ⟨s.f0, s.f1, min s.f2 a⟩) (freshS a k m)) ⟨s.f0, max s.f1 a + k, s.f2 + k⟩
      dsimp only
      omega
  · dsimp only
    omega
theorem putGo_len (a k m : Int) : ∀ (l : List Sp) (o : List Sp) (d : Bool), (putGo a k m l o d).1.length ≤ o.length + 3 * l.length
  | [], o, d => by simp [putGo]
  | s :: r, o, d => by
    have h1 := putGo_len a k m r (putStep a k m o d s).1 (putStep a k m o d s).2
    have h2 := putStep_len a k m o d s
    rw [putGo, List.length_cons]
    omega
/-- Blocks that stay, and a row of spans of the call's own. -/
structure KZ (w : World) (L : List (Nat × Array Value × TypeId)) (v : Value) (o : List Sp) (W : World) : Prop where
  b : Below w.heap.size w W
  blk : ∀ z ∈ L, W.heap[z.1]? = some (.cells z.2.1 z.2.2 (0, 0)) ∧ some z.1 ≠ v.ownBlock
  row : Kd.R kSp 67 W w.heap.size (fun _ => True) v o
theorem KZ.next {w W W' : World} {L : List (Nat × Array Value × TypeId)} {v : Value} {o : List Sp} (h : KZ w L v o W) (hb : Below W.heap.size W W') : KZ w L v o W' := ⟨below_step h.b hb, fun z hz => ⟨blk_below (h.blk z hz).1 hb, (h.blk z hz).2⟩, Kd.R_below h.row hb⟩
theorem own_base_of {w : World} {base : Nat} {e : TypeId} {size n : Nat} {v : Value} {xs : List Value} (h : w.ownsRow base e size v n xs) (k : Nat) (hk : v.ownBlock = some k) : base ≤ k := by
  obtain ⟨_, h⟩ := h
  rcases h with ⟨hv, _⟩ | ⟨g, cap, cur, hv, hb, _⟩
  · subst hv; cases hk
  · subst hv
    injection hk with hk
    have hk' : g = k := hk
    omega
theorem own_baseS {W : World} {base : Nat} {ok : Nat → Prop} {v : Value} {o : List Sp} (h : Kd.R kSp 67 W base ok v o) : ∀ k, v.ownBlock = some k → base ≤ k ∧ k < W.heap.size := by
  obtain ⟨_, inner, ho, _⟩ := h
  exact fun k hk => ⟨own_base_of ho k hk, own_lt ho k hk⟩
theorem KZ.add {w W : World} {L : List (Nat × Array Value × TypeId)} {v : Value} {o o' : List Sp} (h : KZ w L v o W) {e : Ending} {W' : World} (ha : RetAdd v o' w.heap.size W e W') : ∃ v', e = .returned v' ∧ KZ w L v' o' W' := by
  obtain ⟨v', rfl, hr, hg, hn⟩ := ha
  refine ⟨v', rfl, below_grown h.b hg (fun k hk => (own_baseS h.row k hk).1), fun z hz => ⟨(hg.block z.1 (blk_lt (h.blk z hz).1) (h.blk z hz).2).trans (h.blk z hz).1, fun e => ?_⟩, hr⟩
  rcases hn z.1 e.symm with k | k
  · exact (h.blk z hz).2 k
  · have := blk_lt (h.blk z hz).1
    omega
theorem KZ.push {w W W' : World} {L : List (Nat × Array Value × TypeId)} {v : Value} {o : List Sp} (h : KZ w L v o W) {g : Nat} {cs : Array Value} {t : TypeId} (hb : Below W.heap.size W W') (hg : W.heap.size ≤ g) (hx : W'.heap[g]? = some (.cells cs t (0, 0))) : KZ w ((g, cs, t) :: L) v o W' := by
  refine ⟨below_step h.b hb, fun z hz => ?_, Kd.R_below h.row hb⟩
  rcases List.mem_cons.1 hz with rfl | hz
  · exact ⟨hx, fun e => by have := (own_baseS h.row g e.symm).2; omega⟩
  · exact (h.next hb).blk z hz
theorem KZ.tail {w W : World} {z0 : Nat × Array Value × TypeId} {L : List (Nat × Array Value × TypeId)} {v : Value} {o : List Sp} (h : KZ w (z0 :: L) v o W) : KZ w L v o W := ⟨h.b, fun z hz => h.blk z (List.mem_cons_of_mem _ hz), h.row⟩
/-- A world behind V with a block of type t. -/
structure TBm (t : TypeId) (V : World) (g : Nat) (cs : Array Value) (W : World) : Prop where
  b : Below V.heap.size V W
  lo : V.heap.size ≤ g
  hx : W.heap[g]? = some (.cells cs t (0, 0))
theorem TBm.set {t : TypeId} {V W : World} {g : Nat} {cs : Array Value} (h : TBm t V g cs W) (j : Nat) (u : Value) : TBm t V g (cs.setIfInBounds j u) (W.setCell ⟨g, j, none⟩ u) := ⟨below_set h.b h.lo, h.lo, by simpa using blk_set h.hx j u⟩
theorem at_S {w : World} {A : Option Addr} {n : Nat} {xs : List Sp} (h : Kd.C kSp w A n xs) {j : Nat} {x : Sp} (hx : xs[j]? = some x) (hj : j < n) : ∃ ad, A = some ad ∧ w.cell? (ad.add (j * 3)) = some (.int .i64 x.f0) ∧ w.cell? ⟨(ad.add (j * 3)).block, (ad.add (j * 3)).off + 1, none⟩ = some (.int .i64 x.f1) ∧ w.cell? ⟨(ad.add (j * 3)).block, (ad.add (j * 3)).off + 2, none⟩ = some (.int .i64 x.f2) := by
  have e2 : rd_T67 xs (j : Int) = x := by unfold rd_T67; rw [Int.toNat_natCast, List.getD_eq_getElem?_getD, hx]; rfl
  obtain ⟨ad, e, h0, h1, h2⟩ := at_T67 h (j : Int) (by omega) (by omega)
  rw [e2, Int.toNat_natCast] at h0 h1 h2
  exact ⟨ad, e, h0, h1, h2⟩
def RetMk (o : List Sp) (zs : List SY) (w : World) (e : Ending) (w' : World) : Prop := ∃ A c B d, e = .returned (.agg #[.slice A o.length c, .slice B zs.length d]) ∧ Kd.R kSp 67 w' w.heap.size (fun _ => True) (.slice A o.length c) o ∧ Kd.R kY 70 w' w.heap.size (fun _ => True) (.slice B zs.length d) zs ∧ Below w.heap.size w w'
end Go.Proofs.YtjphmebhofkhcaaDoor.Mk
/- Marks: the walk of Put. Conditions: at most 2^40 spans and sites, places and letters at most 2^60. -/
namespace Go.Proofs.YtjphmebhofkhcaaDoor.Mk
open Go.RowKit Go.Proofs.YtjphmebhofkhcaaDoorW.PrintWords Go.Proofs.YtjphmebhofkhcaaDoorW.PrintLast Go.Proofs.YtjphmebhofkhcaaDoorW.PrintMore Go.Proofs.YtjphmebhofkhcaaDoor.PSegAll Go.Proofs.YtjphmebhofkhcaaDoor.Pure
set_option linter.unusedVariables false
set_option linter.unusedSimpArgs false
theorem set_typeM {W : World} {k : Nat} {cs0 : Array Value} {t0 : TypeId} (hk : W.heap[k]? = some (.cells cs0 t0 (0, 0))) {t : TypeId} (ht : t ≠ t0) (j : Nat) (u : Value) : ∀ (g : Nat) (cs : Array Value), W.heap[g]? = some (.cells cs t (0, 0)) → (W.setCell ⟨k, j, none⟩ u).heap[g]? = W.heap[g]? := by
  intro g cs hc
  exact Below.heap_setCell W ⟨k, j, none⟩ u g (blk_ne hc hk ht)
attribute [local go_sem] max2_int min2_int max_two min_two
set_option maxRecDepth 1000000 in
set_option maxHeartbeats 8000000 in
theorem put_calls (A : Option Addr) (c : Nat) (xs : List Sp) (B : Option Addr) (d : Nat) (ys : List SY) (a k m : Int) (w : World) (hr : Kd.C kSp w A xs.length xs) (hc : xs.length ≤ c) (hs : Kd.C kY w B ys.length ys) (hd : ys.length ≤ d) (hl : xs.length ≤ 1099511627776) (hly : ys.length ≤ 1099511627776)
    (ha : -1152921504606846976 ≤ a ∧ a ≤ 1152921504606846976) (hk : -1152921504606846976 ≤ k ∧ k ≤ 1152921504606846976) (hx : ∀ x ∈ xs, (-1152921504606846976 ≤ x.f1 ∧ x.f1 ≤ 1152921504606846976) ∧ -1152921504606846976 ≤ x.f2 ∧ x.f2 ≤ 1152921504606846976) :
    Calls Tryd.prog 43 #[.agg #[.slice A xs.length c, .slice B ys.length d], .int .i64 a, .int .i64 k, .int .i64 m] w (RetMk (putL a k m xs) (normY (ys.map (mvY (toP a k)))) w) := by
  have HR := Lib.hid hr
  have HS := Lib.hid hs
  have HX := Lib.hid hx
  have HA := Lib.hid ha
  have HK := Lib.hid hk
  clear hr hs hx ha hk
  have w0_ : IntKind.i64.wrap (a + k) = a + k := IntWalk.i64_in _ (by have := HA.out; have := HK.out; omega)
  go_enter Tryd.func43, Tryd.ntmps43
  go_upto_region 1 with fail
  obtain ⟨L0, hL0⟩ : ∃ L : List (Nat × Array Value × TypeId), L = [(w.heap.size, #[.slice A xs.length c, .slice B ys.length d], 29), (w.heap.size + 1, #[.int .i64 a], 3), (w.heap.size + 2, #[.int .i64 k], 3), (w.heap.size + 3, #[.slice none 0 0, .slice none 0 0], 29)] := ⟨_, rfl⟩
  refine gen2 (φ := fun W => Code.wp _ _ _ _ W) (P := fun W => KZ w L0 (.slice none 0 0) [] W) ?hP0 ?_
  case hP0 =>
    rw [hL0]
    refine ⟨below_alloc (below_alloc (below_alloc (below_alloc (Below.refl _ _) _) _) _) _, fun z hz => ?_, Kd.R_nil _ _ _ _ _⟩
    have e1 := blk_new w (.cells #[.slice A xs.length c, .slice B ys.length d] 29)
    have e2 := blk_newM (w := w.alloc (.cells #[.slice A xs.length c, .slice B ys.length d] 29)) (o := .cells #[.int .i64 a] 3) (g := w.heap.size + 1) (by simp)
    have e3 := blk_newM (w := (w.alloc (.cells #[.slice A xs.length c, .slice B ys.length d] 29)).alloc (.cells #[.int .i64 a] 3)) (o := .cells #[.int .i64 k] 3) (g := w.heap.size + 2) (by simp)
    have e4 := blk_newM (w := ((w.alloc (.cells #[.slice A xs.length c, .slice B ys.length d] 29)).alloc (.cells #[.int .i64 a] 3)).alloc (.cells #[.int .i64 k] 3)) (o := .cells #[.slice none 0 0, .slice none 0 0] 29) (g := w.heap.size + 3) (by simp)
    simp only [List.mem_cons, List.not_mem_nil, or_false] at hz
    rcases hz with rfl | rfl | rfl | rfl
    · exact ⟨blk_alloc (blk_alloc (blk_alloc e1 _) _) _, by simp [Value.ownBlock]⟩
    · exact ⟨blk_alloc (blk_alloc e2 _) _, by simp [Value.ownBlock]⟩
    · exact ⟨blk_alloc e3 _, by simp [Value.ownBlock]⟩
    · exact ⟨e4, by simp [Value.ownBlock]⟩
  rintro V0 hV0
  have Z0 := Lib.hid hV0
  have M4 : Hid ((w.heap.size, (#[.slice A xs.length c, .slice B ys.length d] : Array Value), 29) ∈ L0) := Lib.hid (by rw [hL0]; simp)
  have M5 : Hid ((w.heap.size + 1, (#[.int .i64 a] : Array Value), 3) ∈ L0) := Lib.hid (by rw [hL0]; simp)
  have M6 : Hid ((w.heap.size + 2, (#[.int .i64 k] : Array Value), 3) ∈ L0) := Lib.hid (by rw [hL0]; simp)
  have M8 : Hid ((w.heap.size + 3, (#[.slice none 0 0, .slice none 0 0] : Array Value), 29) ∈ L0) := Lib.hid (by rw [hL0]; simp)
  clear hV0 hL0
  have x5 := (blk_cell (Z0.out.blk _ M5.out).1 0).trans rfl
  have x6 := (blk_cell (Z0.out.blk _ M6.out).1 0).trans rfl
  go_upto_region 3 with (first | ((with_reducible refine gate_dst (N := 10) rfl ?_); refine box_event ?hg (N := 10) ?hd (cs := #[.int .i64 0, .int .i64 0, .int .i64 0]) (t := 67) ?hr ?_; (case hd => rfl); (case hg => rfl); (case hr => first | (go_simp; done) | (go_simp; rfl)); intro gA hgA wA hxA hbA; have GA := Lib.hid (show TBm 67 V0 gA #[.int .i64 0, .int .i64 0, .int .i64 0] wA from ⟨hbA, by rw [hgA]; exact Nat.le_refl _, hxA⟩); have q0 := (blk_cell hxA 0).trans rfl; have q1 := (blk_cell hxA 1).trans rfl; have q2 := (blk_cell hxA 2).trans rfl; have z0 := blk_frozen hxA 0; have z1 := blk_frozen hxA 1; have z2 := blk_frozen hxA 2; clear hgA hxA hbA))
  refine gen2 (φ := fun W => Code.wp _ _ _ _ W) (P := fun W => TBm 67 V0 gA #[.int .i64 m, .int .i64 a, .int .i64 (a + k)] W) (((GA.out.set 0 (.int .i64 m)).set 1 (.int .i64 a)).set 2 (.int .i64 (a + k))) ?_
  clear q0 q1 q2 z0 z1 z2 GA x5 x6
  rintro V1 hV1
  have T1 := Lib.hid hV1
  have x5 := (blk_cell ((Z0.out.next hV1.b).blk _ M5.out).1 0).trans rfl
  have u2 := (blk_cell hV1.hx 2).trans rfl
  have f2 := blk_frozen hV1.hx 2
  clear hV1
  obtain ⟨fr, hfr⟩ : ∃ fr, fr = freshS a k m := ⟨_, rfl⟩
  have HF := Lib.hid hfr
  by_cases hm : m ≤ 0
  · have dm : decide (m ≤ 0) = true := by simpa using hm
    go_upto_region 5 with fail
    refine gen2 (φ := fun W => Code.wp _ _ _ _ W) (P := fun W => TBm 67 V0 gA #[.int .i64 fr.f0, .int .i64 fr.f1, .int .i64 fr.f2] W) (by
      have e : fr = ⟨m, a, a⟩ := by rw [hfr]; unfold freshS; rw [if_pos hm]
      rw [e]
      exact T1.out.set 2 (.int .i64 a)) ?_
    clear x5 u2 f2 T1 dm hm hfr
    rintro V2 hV2
    obtain ⟨L, hL⟩ : ∃ L, L = (gA, (#[.int .i64 fr.f0, .int .i64 fr.f1, .int .i64 fr.f2] : Array Value), 67) :: L0 := ⟨_, rfl⟩
    have Z2 : Hid (KZ w L (.slice none 0 0) [] V2) := Lib.hid (by rw [hL]; exact Z0.out.push hV2.b hV2.lo hV2.hx)
    have N4 : Hid ((w.heap.size, (#[.slice A xs.length c, .slice B ys.length d] : Array Value), 29) ∈ L) := Lib.hid (by rw [hL]; exact List.mem_cons_of_mem _ M4.out)
    have N5 : Hid ((w.heap.size + 1, (#[.int .i64 a] : Array Value), 3) ∈ L) := Lib.hid (by rw [hL]; exact List.mem_cons_of_mem _ M5.out)
    have N6 : Hid ((w.heap.size + 2, (#[.int .i64 k] : Array Value), 3) ∈ L) := Lib.hid (by rw [hL]; exact List.mem_cons_of_mem _ M6.out)
    have N8 : Hid ((w.heap.size + 3, (#[.slice none 0 0, .slice none 0 0] : Array Value), 29) ∈ L) := Lib.hid (by rw [hL]; exact List.mem_cons_of_mem _ M8.out)
    have N10 : Hid ((gA, (#[.int .i64 fr.f0, .int .i64 fr.f1, .int .i64 fr.f2] : Array Value), 67) ∈ L) := Lib.hid (by rw [hL]; exact List.mem_cons_self)
    clear hV2 hL Z0 M4 M5 M6 M8
    have x4 := (blk_cell (Z2.out.blk _ N4.out).1 0).trans rfl
    go_wp2
    clear x4
    go_loopw [27, 9, 11] (fun s27 s9 s11 wr => ∃ (kk : Nat) (v : Value) (o : List Sp) (dn : Bool), kk ≤ xs.length ∧ s27 = .int .i64 (kk : Int) ∧ v = s9 ∧ s11 = .bool dn ∧ Hid (putGo a k m (xs.take kk) [] false = (o, dn)) ∧ Hid (KZ w L v o wr)) (fun s27 _ _ _ => xs.length - cntM s27)
    case atStart => exact ⟨0, _, [], false, Nat.zero_le _, rfl, rfl, rfl, Lib.hid rfl, Z2⟩
    case round =>
      obtain ⟨kk, v, o, dn, hkk, rfl, ev, rfl, PG, ZW⟩ := hrel
      subst ev
      have LO : Hid (o.length ≤ 3 * kk) := Lib.hid (by have h := putGo_len a k m (xs.take kk) [] false; rw [PG.out] at h; simp only [List.length_take, List.length_nil] at h; omega)
      by_cases hlt : kk < xs.length
      · have d1 : decide ((kk : Int) < (xs.length : Int)) = true := by simp; omega
        have b1 : (0 : Int) ≤ (kk : Int) := by omega
        have b2 : (kk : Int) < (xs.length : Int) := by omega
        have w1_ : IntKind.i64.wrap ((kk : Int) + 1) = (kk : Int) + 1 := IntWalk.i64_in _ (by omega)
        obtain ⟨x, hx⟩ : ∃ x, xs[kk]? = some x := ⟨_, List.getElem?_eq_getElem hlt⟩
        obtain ⟨ad, e0, y0, y1, y2⟩ := at_S (Kd.C_below HR.out ZW.out.b) hx hlt
        subst e0
        have BX := Lib.hid (HX.out x (List.mem_of_getElem? hx))
        have PT := Lib.hid (putGo_take (a := a) (k := k) (m := m) hx)
        rw [PG.out] at PT
        clear hx PG
        go_upto_region 9 with (first | ((with_reducible refine gate_dst (N := 13) rfl ?_); refine box_event ?hg (N := 13) ?hd (cs := #[.int .i64 0, .int .i64 0, .int .i64 0]) (t := 67) ?hr ?_; (case hd => rfl); (case hg => rfl); (case hr => first | (go_simp; done) | (go_simp; rfl)); intro gB hgB wB hxB hbB; have GB := Lib.hid (show TBm 67 wr gB #[.int .i64 0, .int .i64 0, .int .i64 0] wB from ⟨hbB, by rw [hgB]; exact Nat.le_refl _, hxB⟩); have q0 := (blk_cell hxB 0).trans rfl; have q1 := (blk_cell hxB 1).trans rfl; have q2 := (blk_cell hxB 2).trans rfl; have z0 := blk_frozen hxB 0; have z1 := blk_frozen hxB 1; have z2 := blk_frozen hxB 2; clear hgB hxB hbB))
        refine gen2 (φ := fun W => Code.wp _ _ _ _ W) (P := fun W => TBm 67 wr gB #[.int .i64 x.f0, .int .i64 x.f1, .int .i64 x.f2] W) (((GB.out.set 0 (.int .i64 x.f0)).set 1 (.int .i64 x.f1)).set 2 (.int .i64 x.f2)) ?_
        clear q0 q1 q2 z0 z1 z2 GB y0 y1 y2
        rintro V3 hV3
        obtain ⟨L2, hL2⟩ : ∃ L2, L2 = (gB, (#[.int .i64 x.f0, .int .i64 x.f1, .int .i64 x.f2] : Array Value), 67) :: L := ⟨_, rfl⟩
        have Z3 : Hid (KZ w L2 v o V3) := Lib.hid (by rw [hL2]; exact ZW.out.push hV3.b hV3.lo hV3.hx)
        have IN : Hid (∀ z ∈ L, z ∈ L2) := Lib.hid (fun z hz => by rw [hL2]; exact List.mem_cons_of_mem _ hz)
        have I0 : Hid ((gB, (#[.int .i64 x.f0, .int .i64 x.f1, .int .i64 x.f2] : Array Value), 67) ∈ L2) := Lib.hid (by rw [hL2]; exact List.mem_cons_self)
        have BK : Hid (∀ (v' : Value) (o' : List Sp) (W : World), KZ w L2 v' o' W → KZ w L v' o' W) := Lib.hid (fun v' o' W h => by rw [hL2] at h; exact h.tail)
        clear hV3 hL2 ZW
        have x5 := (blk_cell (Z3.out.blk _ (IN.out _ N5.out)).1 0).trans rfl
        have y0 := (blk_cell (Z3.out.blk _ I0.out).1 0).trans rfl
        have y1 := (blk_cell (Z3.out.blk _ I0.out).1 1).trans rfl
        have y2 := (blk_cell (Z3.out.blk _ I0.out).1 2).trans rfl
        obtain ⟨mn, hmn⟩ : ∃ mn, mn = min x.f2 a := ⟨_, rfl⟩
        have eM : (if a < x.f2 then a else x.f2) = mn := by rw [hmn]; split <;> omega
        have HMN := Lib.hid hmn
        clear hmn
        go_wp2_with fail
        (go_at_call 67; refine (add_calls v o ⟨x.f0, x.f1, mn⟩ w _ Z3.out.b Z3.out.row (by have := LO.out; omega)).mono ?_; rintro e w5 ha5)
        obtain ⟨v5, rfl, z5⟩ := Z3.out.add ha5
        have E5 := Lib.hid (show addL o ⟨x.f0, x.f1, mn⟩ = addA a o x by rw [HMN.out]; rfl)
        rw [E5.out] at z5
        have Z5 := Lib.hid z5
        have LA : Hid ((addA a o x).length ≤ 3 * kk + 1) := Lib.hid (by have := addL_length o ⟨x.f0, x.f1, min x.f2 a⟩; have := LO.out; unfold addA; omega)
        clear ha5 z5 Z3 x5 y0 y1 y2 eM HMN E5
        have x5 := (blk_cell (Z5.out.blk _ (IN.out _ N5.out)).1 0).trans rfl
        have y2 := (blk_cell (Z5.out.blk _ I0.out).1 2).trans rfl
        by_cases hgt : x.f2 > a
        · have dg : decide (a < x.f2) = true := by simpa using hgt
          obtain ⟨mx_, hmx⟩ : ∃ z, z = max x.f1 a := ⟨_, rfl⟩
          have eX : (if x.f1 < a then a else x.f1) = mx_ := by rw [hmx]; split <;> omega
          have w2_ : IntKind.i64.wrap (mx_ + k) = mx_ + k := IntWalk.i64_in _ (by have := BX.out; have := HK.out; have := HA.out; omega)
          have w3_ : IntKind.i64.wrap (x.f2 + k) = x.f2 + k := IntWalk.i64_in _ (by have := BX.out; have := HK.out; omega)
          have HMX := Lib.hid hmx
          have HGT := Lib.hid hgt
          clear hmx hgt
          cases dn with
          | true =>
            have ES := Lib.hid (show putStep a k m o true x = (addB a k (addA a o x) x, true) by unfold putStep; rw [if_pos HGT.out]; rfl)
            have Z6 := Z5
            have LB : Hid ((addA a o x).length ≤ 3 * kk + 2) := Lib.hid (by have := LA.out; omega)
            clear x5 y2 Z5 LA
            have x5 := (blk_cell (Z6.out.blk _ (IN.out _ N5.out)).1 0).trans rfl
            have x6 := (blk_cell (Z6.out.blk _ (IN.out _ N6.out)).1 0).trans rfl
            have y0 := (blk_cell (Z6.out.blk _ I0.out).1 0).trans rfl
            have y1 := (blk_cell (Z6.out.blk _ I0.out).1 1).trans rfl
            have y2 := (blk_cell (Z6.out.blk _ I0.out).1 2).trans rfl
            go_wp2_with fail
            (go_at_call 67; refine (add_calls _ _ ⟨x.f0, mx_ + k, x.f2 + k⟩ w _ Z6.out.b Z6.out.row (by have := LB.out; omega)).mono ?_; rintro e w7 ha7)
            obtain ⟨v7, rfl, z7⟩ := Z6.out.add ha7
            have Z7 := Lib.hid (BK.out _ _ _ z7)
            clear x5 x6 y0 y1 y2 ha7 z7 Z6 eX w2_ w3_
            go_wp2
            go_roundw
            case rel => exact ⟨kk + 1, _, _, true, by omega, by go_num, rfl, rfl, Lib.hid (by rw [PT.out, ES.out]; unfold addB; rw [← HMX.out]), Z7⟩
            case measure =>
              simp only [cntM]
              omega
          | false =>
            have ES := Lib.hid (show putStep a k m o false x = (addB a k (addL (addA a o x) fr) x, true) by unfold putStep; rw [if_pos HGT.out, HF.out]; rfl)
            have f0 := (blk_cell (Z5.out.blk _ (IN.out _ N10.out)).1 0).trans rfl
            have f1 := (blk_cell (Z5.out.blk _ (IN.out _ N10.out)).1 1).trans rfl
            have f2 := (blk_cell (Z5.out.blk _ (IN.out _ N10.out)).1 2).trans rfl
            go_wp2_with fail
            (go_at_call 67; refine (add_calls v5 (addA a o x) fr w _ Z5.out.b Z5.out.row (by have := LA.out; omega)).mono ?_; rintro e w6 ha6)
            obtain ⟨v6, rfl, z6⟩ := Z5.out.add ha6
            have Z6 := Lib.hid z6
            have LB : Hid ((addL (addA a o x) fr).length ≤ 3 * kk + 2) := Lib.hid (by have := addL_length (addA a o x) fr; have := LA.out; omega)
            clear x5 y2 Z5 LA f0 f1 f2 z6 ha6
            have x5 := (blk_cell (Z6.out.blk _ (IN.out _ N5.out)).1 0).trans rfl
            have x6 := (blk_cell (Z6.out.blk _ (IN.out _ N6.out)).1 0).trans rfl
            have y0 := (blk_cell (Z6.out.blk _ I0.out).1 0).trans rfl
            have y1 := (blk_cell (Z6.out.blk _ I0.out).1 1).trans rfl
            have y2 := (blk_cell (Z6.out.blk _ I0.out).1 2).trans rfl
            go_wp2_with fail
            (go_at_call 67; refine (add_calls _ _ ⟨x.f0, mx_ + k, x.f2 + k⟩ w _ Z6.out.b Z6.out.row (by have := LB.out; omega)).mono ?_; rintro e w7 ha7)
            obtain ⟨v7, rfl, z7⟩ := Z6.out.add ha7
            have Z7 := Lib.hid (BK.out _ _ _ z7)
            clear x5 x6 y0 y1 y2 ha7 z7 Z6 eX w2_ w3_
            go_wp2
            go_roundw
            case rel => exact ⟨kk + 1, _, _, true, by omega, by go_num, rfl, rfl, Lib.hid (by rw [PT.out, ES.out]; unfold addB; rw [← HMX.out]), Z7⟩
            case measure =>
              simp only [cntM]
              omega
        · have dg : decide (a < x.f2) = false := by simpa using hgt
          have ES := Lib.hid (show putStep a k m o dn x = (addA a o x, dn) by unfold putStep; rw [if_neg hgt])
          have ZB := Lib.hid (BK.out _ _ _ Z5.out)
          clear hgt
          go_wp2
          go_roundw
          case rel => exact ⟨kk + 1, _, _, dn, by omega, by go_num, rfl, rfl, by rw [PT.out, ES.out] <;> exact Lib.hid rfl, ZB⟩
          case measure =>
            simp only [cntM]
            omega
      · have d1 : decide ((kk : Int) < (xs.length : Int)) = false := by simp; omega
        obtain rfl : kk = xs.length := by omega
        rw [List.take_length] at PG
        cases dn with
        | true =>
          have EP := Lib.hid (show putL a k m xs = o by unfold putL; rw [PG.out]; rfl)
          have Z7 := ZW
          clear ZW PG
          have x4 := (blk_cell (Z7.out.blk _ N4.out).1 1).trans rfl
          have x5 := (blk_cell (Z7.out.blk _ N5.out).1 0).trans rfl
          have x6 := (blk_cell (Z7.out.blk _ N6.out).1 0).trans rfl
          go_wp2_with fail
          (go_at_call 68; refine (moved_calls B d ys 69 #[.pointer (some ⟨w.heap.size + 1, 0, none⟩), .pointer (some ⟨w.heap.size + 2, 0, none⟩)] (toP a k) _ eg_put1 (fun W p hb => put1_calls a k p _ _ W (pw_cell_below hb x5) (pw_cell_below hb x6)) (Kd.C_below HS.out Z7.out.b) hd hly).mono ?_; rintro e w8 ⟨v8, rfl, hr8, hb8⟩)
          have Z8 := Lib.hid (Z7.out.next hb8)
          have R8 := Lib.hid (Kd.R_lower hr8 Z7.out.b.size)
          obtain ⟨A9, c9, e9⟩ := Kd.R_slice Z8.out.row
          subst e9
          obtain ⟨B9, d9, e9⟩ := Kd.R_slice R8.out
          subst e9
          have r0 := (blk_cell (Z8.out.blk _ N8.out).1 0).trans rfl
          have r1 := (blk_cell (Z8.out.blk _ N8.out).1 1).trans rfl
          have z0 := blk_frozen (Z8.out.blk _ N8.out).1 0
          have z1 := blk_frozen (Z8.out.blk _ N8.out).1 1
          clear x4 x5 x6 hr8 hb8 Z7
          go_wp2
          have HB8 : w8.heap[w.heap.size + 3]? = some (.cells #[.slice none 0 0, .slice none 0 0] 29 (0, 0)) := (Z8.out.blk _ N8.out).1
          refine bodyPost_ret (results_cell_row rfl _ _ (w.heap.size + 3) 29 #[.slice A9 (o).length c9, .slice B9 (normY (ys.map (mvY (toP a k)))).length d9] (0, 0) _ rfl (by simpa using blk_set (blk_set HB8 0 (.slice A9 (o).length c9)) 1 (.slice B9 (normY (ys.map (mvY (toP a k)))).length d9)) Tryd.underlying29 rfl (by kernel_rfl)) rfl ?_
          rw [EP.out]
          exact ⟨A9, c9, B9, d9, rfl, R_moveT rfl (R_moveT rfl Z8.out.row (set_typeM HB8 (by decide) 0 _)) (set_typeM (blk_set HB8 0 _) (by decide) 1 _), R_moveT rfl (R_moveT rfl R8.out (set_typeM HB8 (by decide) 0 _)) (set_typeM (blk_set HB8 0 _) (by decide) 1 _), below_set (below_set Z8.out.b (by omega)) (by omega)⟩
        | false =>
          have EP := Lib.hid (show putL a k m xs = addL o fr by unfold putL; rw [PG.out, HF.out]; rfl)
          have f0 := (blk_cell (ZW.out.blk _ N10.out).1 0).trans rfl
          have f1 := (blk_cell (ZW.out.blk _ N10.out).1 1).trans rfl
          have f2 := (blk_cell (ZW.out.blk _ N10.out).1 2).trans rfl
          go_wp2_with fail
          (go_at_call 67; refine (add_calls _ o fr w _ ZW.out.b ZW.out.row (by have := LO.out; omega)).mono ?_; rintro e w6 ha6)
          obtain ⟨v7, rfl, z7⟩ := ZW.out.add ha6
          have Z7 := Lib.hid z7
          clear f0 f1 f2 z7 ha6 ZW PG
          have x4 := (blk_cell (Z7.out.blk _ N4.out).1 1).trans rfl
          have x5 := (blk_cell (Z7.out.blk _ N5.out).1 0).trans rfl
          have x6 := (blk_cell (Z7.out.blk _ N6.out).1 0).trans rfl
          go_wp2_with fail
          (go_at_call 68; refine (moved_calls B d ys 69 #[.pointer (some ⟨w.heap.size + 1, 0, none⟩), .pointer (some ⟨w.heap.size + 2, 0, none⟩)] (toP a k) _ eg_put1 (fun W p hb => put1_calls a k p _ _ W (pw_cell_below hb x5) (pw_cell_below hb x6)) (Kd.C_below HS.out Z7.out.b) hd hly).mono ?_; rintro e w8 ⟨v8, rfl, hr8, hb8⟩)
          have Z8 := Lib.hid (Z7.out.next hb8)
          have R8 := Lib.hid (Kd.R_lower hr8 Z7.out.b.size)
          obtain ⟨A9, c9, e9⟩ := Kd.R_slice Z8.out.row
          subst e9
          obtain ⟨B9, d9, e9⟩ := Kd.R_slice R8.out
          subst e9
          have r0 := (blk_cell (Z8.out.blk _ N8.out).1 0).trans rfl
          have r1 := (blk_cell (Z8.out.blk _ N8.out).1 1).trans rfl
          have z0 := blk_frozen (Z8.out.blk _ N8.out).1 0
          have z1 := blk_frozen (Z8.out.blk _ N8.out).1 1
          clear x4 x5 x6 hr8 hb8 Z7
          go_wp2
          have HB8 : w8.heap[w.heap.size + 3]? = some (.cells #[.slice none 0 0, .slice none 0 0] 29 (0, 0)) := (Z8.out.blk _ N8.out).1
          refine bodyPost_ret (results_cell_row rfl _ _ (w.heap.size + 3) 29 #[.slice A9 (addL o fr).length c9, .slice B9 (normY (ys.map (mvY (toP a k)))).length d9] (0, 0) _ rfl (by simpa using blk_set (blk_set HB8 0 (.slice A9 (addL o fr).length c9)) 1 (.slice B9 (normY (ys.map (mvY (toP a k)))).length d9)) Tryd.underlying29 rfl (by kernel_rfl)) rfl ?_
          rw [EP.out]
          exact ⟨A9, c9, B9, d9, rfl, R_moveT rfl (R_moveT rfl Z8.out.row (set_typeM HB8 (by decide) 0 _)) (set_typeM (blk_set HB8 0 _) (by decide) 1 _), R_moveT rfl (R_moveT rfl R8.out (set_typeM HB8 (by decide) 0 _)) (set_typeM (blk_set HB8 0 _) (by decide) 1 _), below_set (below_set Z8.out.b (by omega)) (by omega)⟩
  · have dm : decide (m ≤ 0) = false := by simpa using hm
    go_upto_region 5 with fail
    refine gen2 (φ := fun W => Code.wp _ _ _ _ W) (P := fun W => TBm 67 V0 gA #[.int .i64 fr.f0, .int .i64 fr.f1, .int .i64 fr.f2] W) (by
      have e : fr = ⟨m, a, a + k⟩ := by rw [hfr]; unfold freshS; rw [if_neg hm]
      rw [e]
      exact T1.out) ?_
    clear x5 u2 f2 T1 dm hm hfr
    rintro V2 hV2
    obtain ⟨L, hL⟩ : ∃ L, L = (gA, (#[.int .i64 fr.f0, .int .i64 fr.f1, .int .i64 fr.f2] : Array Value), 67) :: L0 := ⟨_, rfl⟩
    have Z2 : Hid (KZ w L (.slice none 0 0) [] V2) := Lib.hid (by rw [hL]; exact Z0.out.push hV2.b hV2.lo hV2.hx)
    have N4 : Hid ((w.heap.size, (#[.slice A xs.length c, .slice B ys.length d] : Array Value), 29) ∈ L) := Lib.hid (by rw [hL]; exact List.mem_cons_of_mem _ M4.out)
    have N5 : Hid ((w.heap.size + 1, (#[.int .i64 a] : Array Value), 3) ∈ L) := Lib.hid (by rw [hL]; exact List.mem_cons_of_mem _ M5.out)
    have N6 : Hid ((w.heap.size + 2, (#[.int .i64 k] : Array Value), 3) ∈ L) := Lib.hid (by rw [hL]; exact List.mem_cons_of_mem _ M6.out)
    have N8 : Hid ((w.heap.size + 3, (#[.slice none 0 0, .slice none 0 0] : Array Value), 29) ∈ L) := Lib.hid (by rw [hL]; exact List.mem_cons_of_mem _ M8.out)
    have N10 : Hid ((gA, (#[.int .i64 fr.f0, .int .i64 fr.f1, .int .i64 fr.f2] : Array Value), 67) ∈ L) := Lib.hid (by rw [hL]; exact List.mem_cons_self)
    clear hV2 hL Z0 M4 M5 M6 M8
    have x4 := (blk_cell (Z2.out.blk _ N4.out).1 0).trans rfl
    go_wp2
    clear x4
    go_loopw [27, 9, 11] (fun s27 s9 s11 wr => ∃ (kk : Nat) (v : Value) (o : List Sp) (dn : Bool), kk ≤ xs.length ∧ s27 = .int .i64 (kk : Int) ∧ v = s9 ∧ s11 = .bool dn ∧ Hid (putGo a k m (xs.take kk) [] false = (o, dn)) ∧ Hid (KZ w L v o wr)) (fun s27 _ _ _ => xs.length - cntM s27)
    case atStart => exact ⟨0, _, [], false, Nat.zero_le _, rfl, rfl, rfl, Lib.hid rfl, Z2⟩
    case round =>
      obtain ⟨kk, v, o, dn, hkk, rfl, ev, rfl, PG, ZW⟩ := hrel
      subst ev
      have LO : Hid (o.length ≤ 3 * kk) := Lib.hid (by have h := putGo_len a k m (xs.take kk) [] false; rw [PG.out] at h; simp only [List.length_take, List.length_nil] at h; omega)
      by_cases hlt : kk < xs.length
      · have d1 : decide ((kk : Int) < (xs.length : Int)) = true := by simp; omega
        have b1 : (0 : Int) ≤ (kk : Int) := by omega
        have b2 : (kk : Int) < (xs.length : Int) := by omega
        have w1_ : IntKind.i64.wrap ((kk : Int) + 1) = (kk : Int) + 1 := IntWalk.i64_in _ (by omega)
        obtain ⟨x, hx⟩ : ∃ x, xs[kk]? = some x := ⟨_, List.getElem?_eq_getElem hlt⟩
        obtain ⟨ad, e0, y0, y1, y2⟩ := at_S (Kd.C_below HR.out ZW.out.b) hx hlt
        subst e0
        have BX := Lib.hid (HX.out x (List.mem_of_getElem? hx))
        have PT := Lib.hid (putGo_take (a := a) (k := k) (m := m) hx)
        rw [PG.out] at PT
        clear hx PG
        go_upto_region 9 with (first | ((with_reducible refine gate_dst (N := 13) rfl ?_); refine box_event ?hg (N := 13) ?hd (cs := #[.int .i64 0, .int .i64 0, .int .i64 0]) (t := 67) ?hr ?_; (case hd => rfl); (case hg => rfl); (case hr => first | (go_simp; done) | (go_simp; rfl)); intro gB hgB wB hxB hbB; have GB := Lib.hid (show TBm 67 wr gB #[.int .i64 0, .int .i64 0, .int .i64 0] wB from ⟨hbB, by rw [hgB]; exact Nat.le_refl _, hxB⟩); have q0 := (blk_cell hxB 0).trans rfl; have q1 := (blk_cell hxB 1).trans rfl; have q2 := (blk_cell hxB 2).trans rfl; have z0 := blk_frozen hxB 0; have z1 := blk_frozen hxB 1; have z2 := blk_frozen hxB 2; clear hgB hxB hbB))
        refine gen2 (φ := fun W => Code.wp _ _ _ _ W) (P := fun W => TBm 67 wr gB #[.int .i64 x.f0, .int .i64 x.f1, .int .i64 x.f2] W) (((GB.out.set 0 (.int .i64 x.f0)).set 1 (.int .i64 x.f1)).set 2 (.int .i64 x.f2)) ?_
        clear q0 q1 q2 z0 z1 z2 GB y0 y1 y2
        rintro V3 hV3
        obtain ⟨L2, hL2⟩ : ∃ L2, L2 = (gB, (#[.int .i64 x.f0, .int .i64 x.f1, .int .i64 x.f2] : Array Value), 67) :: L := ⟨_, rfl⟩
        have Z3 : Hid (KZ w L2 v o V3) := Lib.hid (by rw [hL2]; exact ZW.out.push hV3.b hV3.lo hV3.hx)
        have IN : Hid (∀ z ∈ L, z ∈ L2) := Lib.hid (fun z hz => by rw [hL2]; exact List.mem_cons_of_mem _ hz)
        have I0 : Hid ((gB, (#[.int .i64 x.f0, .int .i64 x.f1, .int .i64 x.f2] : Array Value), 67) ∈ L2) := Lib.hid (by rw [hL2]; exact List.mem_cons_self)
        have BK : Hid (∀ (v' : Value) (o' : List Sp) (W : World), KZ w L2 v' o' W → KZ w L v' o' W) := Lib.hid (fun v' o' W h => by rw [hL2] at h; exact h.tail)
        clear hV3 hL2 ZW
        have x5 := (blk_cell (Z3.out.blk _ (IN.out _ N5.out)).1 0).trans rfl
        have y0 := (blk_cell (Z3.out.blk _ I0.out).1 0).trans rfl
        have y1 := (blk_cell (Z3.out.blk _ I0.out).1 1).trans rfl
        have y2 := (blk_cell (Z3.out.blk _ I0.out).1 2).trans rfl
        obtain ⟨mn, hmn⟩ : ∃ mn, mn = min x.f2 a := ⟨_, rfl⟩
        have eM : (if a < x.f2 then a else x.f2) = mn := by rw [hmn]; split <;> omega
        have HMN := Lib.hid hmn
        clear hmn
        go_wp2_with fail
        (go_at_call 67; refine (add_calls v o ⟨x.f0, x.f1, mn⟩ w _ Z3.out.b Z3.out.row (by have := LO.out; omega)).mono ?_; rintro e w5 ha5)
        obtain ⟨v5, rfl, z5⟩ := Z3.out.add ha5
        have E5 := Lib.hid (show addL o ⟨x.f0, x.f1, mn⟩ = addA a o x by rw [HMN.out]; rfl)
        rw [E5.out] at z5
        have Z5 := Lib.hid z5
        have LA : Hid ((addA a o x).length ≤ 3 * kk + 1) := Lib.hid (by have := addL_length o ⟨x.f0, x.f1, min x.f2 a⟩; have := LO.out; unfold addA; omega)
        clear ha5 z5 Z3 x5 y0 y1 y2 eM HMN E5
        have x5 := (blk_cell (Z5.out.blk _ (IN.out _ N5.out)).1 0).trans rfl
        have y2 := (blk_cell (Z5.out.blk _ I0.out).1 2).trans rfl
        by_cases hgt : x.f2 > a
        · have dg : decide (a < x.f2) = true := by simpa using hgt
          obtain ⟨mx_, hmx⟩ : ∃ z, z = max x.f1 a := ⟨_, rfl⟩
          have eX : (if x.f1 < a then a else x.f1) = mx_ := by rw [hmx]; split <;> omega
          have w2_ : IntKind.i64.wrap (mx_ + k) = mx_ + k := IntWalk.i64_in _ (by have := BX.out; have := HK.out; have := HA.out; omega)
          have w3_ : IntKind.i64.wrap (x.f2 + k) = x.f2 + k := IntWalk.i64_in _ (by have := BX.out; have := HK.out; omega)
          have HMX := Lib.hid hmx
          have HGT := Lib.hid hgt
          clear hmx hgt
          cases dn with
          | true =>
            have ES := Lib.hid (show putStep a k m o true x = (addB a k (addA a o x) x, true) by unfold putStep; rw [if_pos HGT.out]; rfl)
            have Z6 := Z5
            have LB : Hid ((addA a o x).length ≤ 3 * kk + 2) := Lib.hid (by have := LA.out; omega)
            clear x5 y2 Z5 LA
            have x5 := (blk_cell (Z6.out.blk _ (IN.out _ N5.out)).1 0).trans rfl
            have x6 := (blk_cell (Z6.out.blk _ (IN.out _ N6.out)).1 0).trans rfl
            have y0 := (blk_cell (Z6.out.blk _ I0.out).1 0).trans rfl
            have y1 := (blk_cell (Z6.out.blk _ I0.out).1 1).trans rfl
            have y2 := (blk_cell (Z6.out.blk _ I0.out).1 2).trans rfl
            go_wp2_with fail
            (go_at_call 67; refine (add_calls _ _ ⟨x.f0, mx_ + k, x.f2 + k⟩ w _ Z6.out.b Z6.out.row (by have := LB.out; omega)).mono ?_; rintro e w7 ha7)
            obtain ⟨v7, rfl, z7⟩ := Z6.out.add ha7
            have Z7 := Lib.hid (BK.out _ _ _ z7)
            clear x5 x6 y0 y1 y2 ha7 z7 Z6 eX w2_ w3_
            go_wp2
            go_roundw
            case rel => exact ⟨kk + 1, _, _, true, by omega, by go_num, rfl, rfl, Lib.hid (by rw [PT.out, ES.out]; unfold addB; rw [← HMX.out]), Z7⟩
            case measure =>
              simp only [cntM]
              omega
          | false =>
            have ES := Lib.hid (show putStep a k m o false x = (addB a k (addL (addA a o x) fr) x, true) by unfold putStep; rw [if_pos HGT.out, HF.out]; rfl)
            have f0 := (blk_cell (Z5.out.blk _ (IN.out _ N10.out)).1 0).trans rfl
            have f1 := (blk_cell (Z5.out.blk _ (IN.out _ N10.out)).1 1).trans rfl
            have f2 := (blk_cell (Z5.out.blk _ (IN.out _ N10.out)).1 2).trans rfl
            go_wp2_with fail
            (go_at_call 67; refine (add_calls v5 (addA a o x) fr w _ Z5.out.b Z5.out.row (by have := LA.out; omega)).mono ?_; rintro e w6 ha6)
            obtain ⟨v6, rfl, z6⟩ := Z5.out.add ha6
            have Z6 := Lib.hid z6
            have LB : Hid ((addL (addA a o x) fr).length ≤ 3 * kk + 2) := Lib.hid (by have := addL_length (addA a o x) fr; have := LA.out; omega)
            clear x5 y2 Z5 LA f0 f1 f2 z6 ha6
            have x5 := (blk_cell (Z6.out.blk _ (IN.out _ N5.out)).1 0).trans rfl
            have x6 := (blk_cell (Z6.out.blk _ (IN.out _ N6.out)).1 0).trans rfl
            have y0 := (blk_cell (Z6.out.blk _ I0.out).1 0).trans rfl
            have y1 := (blk_cell (Z6.out.blk _ I0.out).1 1).trans rfl
            have y2 := (blk_cell (Z6.out.blk _ I0.out).1 2).trans rfl
            go_wp2_with fail
            (go_at_call 67; refine (add_calls _ _ ⟨x.f0, mx_ + k, x.f2 + k⟩ w _ Z6.out.b Z6.out.row (by have := LB.out; omega)).mono ?_; rintro e w7 ha7)
            obtain ⟨v7, rfl, z7⟩ := Z6.out.add ha7
            have Z7 := Lib.hid (BK.out _ _ _ z7)
            clear x5 x6 y0 y1 y2 ha7 z7 Z6 eX w2_ w3_
            go_wp2
            go_roundw
            case rel => exact ⟨kk + 1, _, _, true, by omega, by go_num, rfl, rfl, Lib.hid (by rw [PT.out, ES.out]; unfold addB; rw [← HMX.out]), Z7⟩
            case measure =>
              simp only [cntM]
              omega
        · have dg : decide (a < x.f2) = false := by simpa using hgt
          have ES := Lib.hid (show putStep a k m o dn x = (addA a o x, dn) by unfold putStep; rw [if_neg hgt])
          have ZB := Lib.hid (BK.out _ _ _ Z5.out)
          clear hgt
          go_wp2
          go_roundw
          case rel => exact ⟨kk + 1, _, _, dn, by omega, by go_num, rfl, rfl, by rw [PT.out, ES.out] <;> exact Lib.hid rfl, ZB⟩
          case measure =>
            simp only [cntM]
            omega
      · have d1 : decide ((kk : Int) < (xs.length : Int)) = false := by simp; omega
        obtain rfl : kk = xs.length := by omega
        rw [List.take_length] at PG
        cases dn with
        | true =>
          have EP := Lib.hid (show putL a k m xs = o by unfold putL; rw [PG.out]; rfl)
          have Z7 := ZW
          clear ZW PG
          have x4 := (blk_cell (Z7.out.blk _ N4.out).1 1).trans rfl
          have x5 := (blk_cell (Z7.out.blk _ N5.out).1 0).trans rfl
          have x6 := (blk_cell (Z7.out.blk _ N6.out).1 0).trans rfl
          go_wp2_with fail
          (go_at_call 68; refine (moved_calls B d ys 69 #[.pointer (some ⟨w.heap.size + 1, 0, none⟩), .pointer (some ⟨w.heap.size + 2, 0, none⟩)] (toP a k) _ eg_put1 (fun W p hb => put1_calls a k p _ _ W (pw_cell_below hb x5) (pw_cell_below hb x6)) (Kd.C_below HS.out Z7.out.b) hd hly).mono ?_; rintro e w8 ⟨v8, rfl, hr8, hb8⟩)
          have Z8 := Lib.hid (Z7.out.next hb8)
          have R8 := Lib.hid (Kd.R_lower hr8 Z7.out.b.size)
          obtain ⟨A9, c9, e9⟩ := Kd.R_slice Z8.out.row
          subst e9
          obtain ⟨B9, d9, e9⟩ := Kd.R_slice R8.out
          subst e9
          have r0 := (blk_cell (Z8.out.blk _ N8.out).1 0).trans rfl
          have r1 := (blk_cell (Z8.out.blk _ N8.out).1 1).trans rfl
          have z0 := blk_frozen (Z8.out.blk _ N8.out).1 0
          have z1 := blk_frozen (Z8.out.blk _ N8.out).1 1
          clear x4 x5 x6 hr8 hb8 Z7
          go_wp2
          have HB8 : w8.heap[w.heap.size + 3]? = some (.cells #[.slice none 0 0, .slice none 0 0] 29 (0, 0)) := (Z8.out.blk _ N8.out).1
          refine bodyPost_ret (results_cell_row rfl _ _ (w.heap.size + 3) 29 #[.slice A9 (o).length c9, .slice B9 (normY (ys.map (mvY (toP a k)))).length d9] (0, 0) _ rfl (by simpa using blk_set (blk_set HB8 0 (.slice A9 (o).length c9)) 1 (.slice B9 (normY (ys.map (mvY (toP a k)))).length d9)) Tryd.underlying29 rfl (by kernel_rfl)) rfl ?_
          rw [EP.out]
          exact ⟨A9, c9, B9, d9, rfl, R_moveT rfl (R_moveT rfl Z8.out.row (set_typeM HB8 (by decide) 0 _)) (set_typeM (blk_set HB8 0 _) (by decide) 1 _), R_moveT rfl (R_moveT rfl R8.out (set_typeM HB8 (by decide) 0 _)) (set_typeM (blk_set HB8 0 _) (by decide) 1 _), below_set (below_set Z8.out.b (by omega)) (by omega)⟩
        | false =>
          have EP := Lib.hid (show putL a k m xs = addL o fr by unfold putL; rw [PG.out, HF.out]; rfl)
          have f0 := (blk_cell (ZW.out.blk _ N10.out).1 0).trans rfl
          have f1 := (blk_cell (ZW.out.blk _ N10.out).1 1).trans rfl
          have f2 := (blk_cell (ZW.out.blk _ N10.out).1 2).trans rfl
          go_wp2_with fail
          (go_at_call 67; refine (add_calls _ o fr w _ ZW.out.b ZW.out.row (by have := LO.out; omega)).mono ?_; rintro e w6 ha6)
          obtain ⟨v7, rfl, z7⟩ := ZW.out.add ha6
          have Z7 := Lib.hid z7
          clear f0 f1 f2 z7 ha6 ZW PG
          have x4 := (blk_cell (Z7.out.blk _ N4.out).1 1).trans rfl
          have x5 := (blk_cell (Z7.out.blk _ N5.out).1 0).trans rfl
          have x6 := (blk_cell (Z7.out.blk _ N6.out).1 0).trans rfl
          go_wp2_with fail
          (go_at_call 68; refine (moved_calls B d ys 69 #[.pointer (some ⟨w.heap.size + 1, 0, none⟩), .pointer (some ⟨w.heap.size + 2, 0, none⟩)] (toP a k) _ eg_put1 (fun W p hb => put1_calls a k p _ _ W (pw_cell_below hb x5) (pw_cell_below hb x6)) (Kd.C_below HS.out Z7.out.b) hd hly).mono ?_; rintro e w8 ⟨v8, rfl, hr8, hb8⟩)
          have Z8 := Lib.hid (Z7.out.next hb8)
          have R8 := Lib.hid (Kd.R_lower hr8 Z7.out.b.size)
          obtain ⟨A9, c9, e9⟩ := Kd.R_slice Z8.out.row
          subst e9
          obtain ⟨B9, d9, e9⟩ := Kd.R_slice R8.out
          subst e9
          have r0 := (blk_cell (Z8.out.blk _ N8.out).1 0).trans rfl
          have r1 := (blk_cell (Z8.out.blk _ N8.out).1 1).trans rfl
          have z0 := blk_frozen (Z8.out.blk _ N8.out).1 0
          have z1 := blk_frozen (Z8.out.blk _ N8.out).1 1
          clear x4 x5 x6 hr8 hb8 Z7
          go_wp2
          have HB8 : w8.heap[w.heap.size + 3]? = some (.cells #[.slice none 0 0, .slice none 0 0] 29 (0, 0)) := (Z8.out.blk _ N8.out).1
          refine bodyPost_ret (results_cell_row rfl _ _ (w.heap.size + 3) 29 #[.slice A9 (addL o fr).length c9, .slice B9 (normY (ys.map (mvY (toP a k)))).length d9] (0, 0) _ rfl (by simpa using blk_set (blk_set HB8 0 (.slice A9 (addL o fr).length c9)) 1 (.slice B9 (normY (ys.map (mvY (toP a k)))).length d9)) Tryd.underlying29 rfl (by kernel_rfl)) rfl ?_
          rw [EP.out]
          exact ⟨A9, c9, B9, d9, rfl, R_moveT rfl (R_moveT rfl Z8.out.row (set_typeM HB8 (by decide) 0 _)) (set_typeM (blk_set HB8 0 _) (by decide) 1 _), R_moveT rfl (R_moveT rfl R8.out (set_typeM HB8 (by decide) 0 _)) (set_typeM (blk_set HB8 0 _) (by decide) 1 _), below_set (below_set Z8.out.b (by omega)) (by omega)⟩
end Go.Proofs.YtjphmebhofkhcaaDoor.Mk
/- Marks: the walk of the reference's Put. Conditions: right marks of a text of at most 2^40 letters. -/
namespace Go.Proofs.YtjphmebhofkhcaaDoor.Mk
open Go.RowKit Go.Proofs.YtjphmebhofkhcaaDoorW.PrintWords Go.Proofs.YtjphmebhofkhcaaDoorW.PrintLast Go.Proofs.YtjphmebhofkhcaaDoorW.PrintMore Go.Proofs.YtjphmebhofkhcaaDoor.PSegAll Go.Proofs.YtjphmebhofkhcaaDoor.Pure
set_option linter.unusedVariables false
set_option linter.unusedSimpArgs false
attribute [local go_sem] max2_int min2_int max_two min_two
theorem infoI : (Tryd.prog.info? 3).map (fun i => (i.zero, i.size, i.bytes)) = some (some (.int .i64 0), 1, 8) := by kernel_rfl
theorem infoI2 : ∃ i, Tryd.prog.info? 3 = some i ∧ i.size = 1 := by
  obtain ⟨i, h1, h2⟩ := Option.map_eq_some_iff.1 infoI
  simp only [Prod.mk.injEq] at h2
  exact ⟨i, h1, h2.2.1⟩
theorem own_neY {W : World} {base : Nat} {ok : Nat → Prop} {v : Value} {o : List SY} (h : Kd.R kY 70 W base ok v o) {g : Nat} {cs : Array Value} {t : TypeId} (hg : W.heap[g]? = some (.cells cs t (0, 0))) (ht : t ≠ 70) : some g ≠ v.ownBlock := by
  intro e
  obtain ⟨i, ho⟩ := Kd.R_own h
  obtain ⟨cu, hcu⟩ := own_typed ho g e.symm
  rw [hg] at hcu
  injection hcu with hcu
  injection hcu with _ h2 _
  exact ht h2
end Go.Proofs.YtjphmebhofkhcaaDoor.Mk
