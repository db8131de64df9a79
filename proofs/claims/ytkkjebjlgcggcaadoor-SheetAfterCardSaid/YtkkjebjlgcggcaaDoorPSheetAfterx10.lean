-- PRINTED BY print.sh 35421559b90ae4d0a3588c463048766b98c2df88dd9212a6774a882060cdf62d: not written by this session
import Derived.Test.YtkkjebjlgcggcaaDoorPSheetAfterx0
import Derived.Test.YtkkjebjlgcggcaaDoorPSheetAfterx8
import Derived.Test.YtkkjebjlgcggcaaDoorPSheetAfterx9
namespace Go.Proofs.YtkkjebjlgcggcaaDoor.PSheetAfter
open Go.RowKit Go.Proofs.YtkkjebjlgcggcaaDoorW.PrintWords Go.Proofs.YtkkjebjlgcggcaaDoorW.PrintLast Go.Proofs.YtkkjebjlgcggcaaDoorW.PrintMore
attribute [local go_sem] max2_int min2_int max_two min_two max_three min_three max_four min_four   -- for this text's walks alone
set_option linter.unusedVariables false
set_option linter.unusedSimpArgs false

/-! ### chancelref06_Same: function 15 -/
def chancelref06_Same.l0 : Nat → List (S40) → List (S40) → Int → Option (Bool)
  | 0, _, _, _ => none
  | k + 1, x0, x1, x5 => if x5 < (x0.length : Int) then (if 0 ≤ x5 then (if x5 < (x1.length : Int) then ((chancelref05_Same.f k ((rd_T40 x0 x5).f0) ((rd_T40 x0 x5).f1) ((rd_T40 x0 x5).f2) ((rd_T40 x0 x5).f3) ((rd_T40 x0 x5).f4) ((rd_T40 x1 x5).f0) ((rd_T40 x1 x5).f1) ((rd_T40 x1 x5).f2) ((rd_T40 x1 x5).f3) ((rd_T40 x1 x5).f4)).bind fun t179 => (if t179 = true then (chancelref06_Same.l0 k x0 x1 (wrap64 (x5 + 1))) else (some false))) else (none)) else (none)) else (some true)
def chancelref06_Same.f (k : Nat) (l0 : List (S40)) (l1 : List (S40)) : Option (Bool) := if (l0.length : Int) = (l1.length : Int) then (chancelref06_Same.l0 k l0 l1 0) else (some false)
theorem chancelref06_Same.mono_l : ∀ k, (∀ y0 y1 y2, LeO (chancelref06_Same.l0 k y0 y1 y2) (chancelref06_Same.l0 (k + 1) y0 y1 y2))
  | 0 => fun _ _ _ r h => by simp [chancelref06_Same.l0] at h
  | k + 1 => by
    have ih0 := chancelref06_Same.mono_l k
    · intro y0 y1 y2
      unfold chancelref06_Same.l0
      repeat' first
      | (with_reducible exact ih0 _ _ _)
      | (with_reducible exact chancelref05_Same.mono _ _ _ _ _ _ _ _ _ _ _)
      | (with_reducible exact LeO.refl _)
      | (with_reducible exact LeO.none _)
      | (with_reducible refine LeO.ite ?_ ?_)
      | (with_reducible refine LeO.bind ?_ (fun _ => ?_))
      | exact ih0 _ _ _
      | exact chancelref05_Same.mono _ _ _ _ _ _ _ _ _ _ _
      | exact LeO.none _
      | refine LeO.ite ?_ ?_
      | refine LeO.bind ?_ (fun _ => ?_)
theorem chancelref06_Same.mono : ∀ a0 a1 k, LeO (chancelref06_Same.f k a0 a1) (chancelref06_Same.f (k + 1) a0 a1) := by
  intro a0 a1 k
  have ih0 := chancelref06_Same.mono_l k
  unfold chancelref06_Same.f
  repeat' first
      | (with_reducible exact ih0 _ _ _)
      | (with_reducible exact chancelref05_Same.mono _ _ _ _ _ _ _ _ _ _ _)
      | (with_reducible exact LeO.refl _)
      | (with_reducible exact LeO.none _)
      | (with_reducible refine LeO.ite ?_ ?_)
      | (with_reducible refine LeO.bind ?_ (fun _ => ?_))
      | exact ih0 _ _ _
      | exact chancelref05_Same.mono _ _ _ _ _ _ _ _ _ _ _
      | exact LeO.none _
      | refine LeO.ite ?_ ?_
      | refine LeO.bind ?_ (fun _ => ?_)
def chancelref06_Same.T6 : Bool × List (List Nat × List Nat) := (true, [([], []), ([], []), ([0, 1], [0, 1]), ([2], [2]), ([], []), ([], []), ([4, 5], [4, 5]), ([6], [6]), ([3, 7], [3, 7]), ([8], [8])])
def chancelref06_Same.B6 : List Nat := [0, 0, 3, 7, 0, 0, 48, 112, 255, 511]
theorem chancelref06_Same.tab6 : rtab .any (opsOf Tryd.f15 6) = chancelref06_Same.T6 := by kernel_rfl
theorem chancelref06_Same.bits6 : waitsOk chancelref06_Same.T6.2 chancelref06_Same.B6 = true := by kernel_rfl
set_option maxHeartbeats 8000000 in
set_option maxRecDepth 100000 in
theorem chancelref06_Same.calls (k : Nat) (A0 : Option Addr) (c0 : Nat) (l0 : List (S40)) (A1 : Option Addr) (c1 : Nat) (l1 : List (S40)) (r : Bool) (w : World) (hr0 : Kd.C k40 w A0 l0.length l0) (hc0 : l0.length ≤ c0) (hr1 : Kd.C k40 w A1 l1.length l1) (hc1 : l1.length ≤ c1) (h : chancelref06_Same.f k l0 l1 = some r) :
    Calls Tryd.prog 15 #[.slice A0 l0.length c0, .slice A1 l1.length c1] w fun e w' => e = .returned (.bool r) ∧ Below w.heap.size w w' := by
  have hu40 := Tryd.underlying40
  have HR0 := Aside0.mk hr0
  have HC0 := Aside0.mk hc0
  clear hr0 hc0
  have HR1 := Aside0.mk hr1
  have HC1 := Aside0.mk hc1
  clear hr1 hc1
  have HB := Aside0.mk (Below.refl w.heap.size w)
  have H : (if (l0.length : Int) = (l1.length : Int) then (chancelref06_Same.l0 k l0 l1 0) else (some false)) = some r := h
  clear h
  by_cases c3 : (l0.length : Int) = (l1.length : Int)
  · rw [if_pos c3] at H
    have c3b0 : ((l0.length : Int) == (l1.length : Int)) = true := beq_iff_eq.mpr c3
    have c3b1 : ((l0.length : Int) != (l1.length : Int)) = false := bne_eq_false_iff_eq.mpr c3
    have c3b2 : (l0.length == l1.length) = true := by first | simpa using c3 | (simp at c3 ⊢; omega)
    clear c3
    have H' := Aside0.mk H
    clear H
    go_enter Tryd.func15, Tryd.ntmps15
    go_wp2
    go_loopg [5] k (fun kq v5 w' => ∃ (x5_1 : Int), v5 = .int .i64 x5_1 ∧ Aside0 (chancelref06_Same.l0 kq l0 l1 x5_1 = some r) ∧ Aside0 (kq ≤ k) ∧ Aside0 (Below w.heap.size w w'))
    case atStart => exact ⟨(0), (by first | rfl | (simp; done) | (simp [*]; done)), H', ⟨Nat.le_refl _⟩, ⟨by repeat (first | (with_reducible first | exact HB.out | apply below_alloc | apply pw_below_drewN | apply below_drew1) | exact HB.out)⟩⟩
    case round =>
      clear H'
      try clear c1
      try clear p2
      try clear c3
      try clear c3b0
      try clear c3b1
      try clear c3b2
      obtain ⟨x5_1, rfl, HA, HK1, HB⟩ := hrel
      cases gk with
      | zero => exact absurd HA.out (by simp [chancelref06_Same.l0])
      | succ k1 =>
        have H := HA.out
        clear HA
        simp only [chancelref06_Same.l0] at H
        by_cases c4 : x5_1 < (l0.length : Int)
        · rw [if_pos c4] at H
          have c4b0 : decide (x5_1 < (l0.length : Int)) = true := decide_eq_true c4
          clear c4
          by_cases c5 : 0 ≤ x5_1
          · rw [if_pos c5] at H
            have c5b0 : decide (0 ≤ x5_1) = true := decide_eq_true c5
            clear c5
            by_cases c6 : x5_1 < (l1.length : Int)
            · rw [if_pos c6] at H
              have c6b0 : decide (x5_1 < (l1.length : Int)) = true := decide_eq_true c6
              clear c6
              replace H := Option.bind_eq_some_iff.mp H
              obtain ⟨t179, A70, H⟩ := H
              replace H : (if t179 = true then (chancelref06_Same.l0 k1 l0 l1 (wrap64 (x5_1 + 1))) else (some false)) = some r := H
              have A7 := Aside0.mk A70
              clear A70
              by_cases c8 : t179 = true
              · subst c8
                have H1 : (chancelref06_Same.l0 k1 l0 l1 (wrap64 (x5_1 + 1))) = some r := by rw [if_pos rfl] at H; exact H
                clear H
                have H := H1
                clear H1
                have H' := Aside0.mk H
                clear H
                try go_wp2
                have n0_ := Aside0.mk (below_drew1 HB.out)
                clear HB
                have HB := n0_
                clear n0_
                have p177 : 0 ≤ (x5_1 : Int) := of_decide_eq_true (by first | (with_reducible assumption) | assumption)
                have q177 : x5_1 < (l0.length : Int) := of_decide_eq_true (by first | (with_reducible assumption) | assumption)
                obtain ⟨ad177, A177_3, c177_3, A177_4, c177_4, e177, hx177_0, hx177_1, hx177_2, hx177_3, hx177_4, hl177_3, hi177_3, hl177_4, hi177_4⟩ := at_T40 HR0.out x5_1 p177 q177
                have hw177_4 := hx177_4
                have hw177_3 := hx177_3
                have hw177_2 := hx177_2
                have hw177_1 := hx177_1
                have hw177_0 := hx177_0
                cases e177
                replace hx177_0 := (HB.out.cell (World.block_lt_of_cell? w _ hx177_0)).trans hx177_0
                replace hx177_1 := (HB.out.cell (World.block_lt_of_cell? w _ hx177_1)).trans hx177_1
                replace hx177_2 := (HB.out.cell (World.block_lt_of_cell? w _ hx177_2)).trans hx177_2
                replace hx177_3 := (HB.out.cell (World.block_lt_of_cell? w _ hx177_3)).trans hx177_3
                replace hx177_4 := (HB.out.cell (World.block_lt_of_cell? w _ hx177_4)).trans hx177_4
                have HR177_3 := Aside0.mk hi177_3
                have HC177_3 := Aside0.mk hl177_3
                clear hi177_3 hl177_3
                have HR177_4 := Aside0.mk hi177_4
                have HC177_4 := Aside0.mk hl177_4
                clear hi177_4 hl177_4
                replace p177 := eq_true p177
                replace q177 := eq_true q177
                have p178 : 0 ≤ (x5_1 : Int) := of_decide_eq_true (by first | (with_reducible assumption) | assumption)
                have q178 : x5_1 < (l1.length : Int) := of_decide_eq_true (by first | (with_reducible assumption) | assumption)
                obtain ⟨ad178, A178_3, c178_3, A178_4, c178_4, e178, hx178_0, hx178_1, hx178_2, hx178_3, hx178_4, hl178_3, hi178_3, hl178_4, hi178_4⟩ := at_T40 HR1.out x5_1 p178 q178
                have hw178_4 := hx178_4
                have hw178_3 := hx178_3
                have hw178_2 := hx178_2
                have hw178_1 := hx178_1
                have hw178_0 := hx178_0
                cases e178
                replace hx178_0 := (HB.out.cell (World.block_lt_of_cell? w _ hx178_0)).trans hx178_0
                replace hx178_1 := (HB.out.cell (World.block_lt_of_cell? w _ hx178_1)).trans hx178_1
                replace hx178_2 := (HB.out.cell (World.block_lt_of_cell? w _ hx178_2)).trans hx178_2
                replace hx178_3 := (HB.out.cell (World.block_lt_of_cell? w _ hx178_3)).trans hx178_3
                replace hx178_4 := (HB.out.cell (World.block_lt_of_cell? w _ hx178_4)).trans hx178_4
                have HR178_3 := Aside0.mk hi178_3
                have HC178_3 := Aside0.mk hl178_3
                clear hi178_3 hl178_3
                have HR178_4 := Aside0.mk hi178_4
                have HC178_4 := Aside0.mk hl178_4
                clear hi178_4 hl178_4
                replace p178 := eq_true p178
                replace q178 := eq_true q178
                refine start_ (n := 10) (S := fun w' => w'.cell? (ad177.add ((x5_1).toNat * 5)) = some (.int .i64 ((rd_T40 l0 x5_1).f0)) ∧ w'.cell? ⟨(ad177.add ((x5_1).toNat * 5)).block, (ad177.add ((x5_1).toNat * 5)).off + 1, none⟩ = some (.int .i64 ((rd_T40 l0 x5_1).f1)) ∧ w'.cell? ⟨(ad177.add ((x5_1).toNat * 5)).block, (ad177.add ((x5_1).toNat * 5)).off + 2, none⟩ = some (.string ((rd_T40 l0 x5_1).f2)) ∧ w'.cell? ⟨(ad177.add ((x5_1).toNat * 5)).block, (ad177.add ((x5_1).toNat * 5)).off + 3, none⟩ = some (.slice A177_3 ((rd_T40 l0 x5_1).f3).length c177_3) ∧ w'.cell? ⟨(ad177.add ((x5_1).toNat * 5)).block, (ad177.add ((x5_1).toNat * 5)).off + 4, none⟩ = some (.slice A177_4 ((rd_T40 l0 x5_1).f4).length c177_4) ∧ w'.cell? (ad178.add ((x5_1).toNat * 5)) = some (.int .i64 ((rd_T40 l1 x5_1).f0)) ∧ w'.cell? ⟨(ad178.add ((x5_1).toNat * 5)).block, (ad178.add ((x5_1).toNat * 5)).off + 1, none⟩ = some (.int .i64 ((rd_T40 l1 x5_1).f1)) ∧ w'.cell? ⟨(ad178.add ((x5_1).toNat * 5)).block, (ad178.add ((x5_1).toNat * 5)).off + 2, none⟩ = some (.string ((rd_T40 l1 x5_1).f2)) ∧ w'.cell? ⟨(ad178.add ((x5_1).toNat * 5)).block, (ad178.add ((x5_1).toNat * 5)).off + 3, none⟩ = some (.slice A178_3 ((rd_T40 l1 x5_1).f3).length c178_3) ∧ w'.cell? ⟨(ad178.add ((x5_1).toNat * 5)).block, (ad178.add ((x5_1).toNat * 5)).off + 4, none⟩ = some (.slice A178_4 ((rd_T40 l1 x5_1).f4).length c178_4)) (ds := []) #[false, false, false, false, false, false, false, false, false, false] (by kernel_rfl) rfl rfl ⟨((HB.out.cell (World.block_lt_of_cell? w _ hw177_0)).trans hw177_0), ((HB.out.cell (World.block_lt_of_cell? w _ hw177_1)).trans hw177_1), ((HB.out.cell (World.block_lt_of_cell? w _ hw177_2)).trans hw177_2), ((HB.out.cell (World.block_lt_of_cell? w _ hw177_3)).trans hw177_3), ((HB.out.cell (World.block_lt_of_cell? w _ hw177_4)).trans hw177_4), ((HB.out.cell (World.block_lt_of_cell? w _ hw178_0)).trans hw178_0), ((HB.out.cell (World.block_lt_of_cell? w _ hw178_1)).trans hw178_1), ((HB.out.cell (World.block_lt_of_cell? w _ hw178_2)).trans hw178_2), ((HB.out.cell (World.block_lt_of_cell? w _ hw178_3)).trans hw178_3), ((HB.out.cell (World.block_lt_of_cell? w _ hw178_4)).trans hw178_4)⟩ (fun hHeld => ?_); refine with_tabW chancelref06_Same.tab6 chancelref06_Same.bits6 (fun HT_ HW_ => ?_)
                generalize wr.drew = w9 at HB HR177_3 HR177_4 HR178_3 HR178_4 hx177_0 hx177_1 hx177_2 hx177_3 hx177_4 hx178_0 hx178_1 hx178_2 hx178_3 hx178_4 hHeld ⊢
                refine pure_ (i := 0) (N := some 17) (v := ?_) (a' := ?_) #[true, false, false, false, false, false, false, false, false, false] rfl rfl (any_of HT_.out (by kernel_rfl)) (fun _ _ _ h => h) (Or.inl ⟨by rfl, ?_⟩) ?_ ?_
                rotate_left
                · intro w'
                  go_simp
                  with_reducible rfl
                rotate_left
                · simp only [Act.put, List.setIfInBounds_toArray, List.set_cons_zero, List.set_cons_succ, i64_w, i32_w]
                  rfl
                refine pure_ (i := 1) (N := some 18) (v := ?_) (a' := ?_) #[true, true, false, false, false, false, false, false, false, false] rfl rfl (any_of HT_.out (by kernel_rfl)) (fun _ _ _ h => h) (Or.inl ⟨by rfl, ?_⟩) ?_ ?_
                rotate_left
                · intro w'
                  go_simp
                  with_reducible rfl
                rotate_left
                · simp only [Act.put, List.setIfInBounds_toArray, List.set_cons_zero, List.set_cons_succ, i64_w, i32_w]
                  rfl
                refine pure_ (i := 2) (N := some 19) (v := ?_) (a' := ?_) #[true, true, true, false, false, false, false, false, false, false] rfl rfl (any_of HT_.out (by kernel_rfl)) (fun _ _ _ h => h) (Or.inl ⟨by rfl, ?_⟩) ?_ ?_
                rotate_left
                · intro w'
                  go_simp
                  with_reducible rfl
                rotate_left
                · simp only [Act.put, List.setIfInBounds_toArray, List.set_cons_zero, List.set_cons_succ, i64_w, i32_w]
                  rfl
                refine pure_ (i := 4) (N := some 21) (v := ?_) (a' := ?_) #[true, true, true, false, true, false, false, false, false, false] rfl rfl (any_of HT_.out (by kernel_rfl)) (fun _ _ _ h => h) (Or.inl ⟨by rfl, ?_⟩) ?_ ?_
                rotate_left
                · intro w'
                  go_simp
                  with_reducible rfl
                rotate_left
                · simp only [Act.put, List.setIfInBounds_toArray, List.set_cons_zero, List.set_cons_succ, i64_w, i32_w]
                  rfl
                refine pure_ (i := 5) (N := some 22) (v := ?_) (a' := ?_) #[true, true, true, false, true, true, false, false, false, false] rfl rfl (any_of HT_.out (by kernel_rfl)) (fun _ _ _ h => h) (Or.inl ⟨by rfl, ?_⟩) ?_ ?_
                rotate_left
                · intro w'
                  go_simp
                  with_reducible rfl
                rotate_left
                · simp only [Act.put, List.setIfInBounds_toArray, List.set_cons_zero, List.set_cons_succ, i64_w, i32_w]
                  rfl
                refine pure_ (i := 6) (N := some 23) (v := ?_) (a' := ?_) #[true, true, true, false, true, true, true, false, false, false] rfl rfl (any_of HT_.out (by kernel_rfl)) (fun _ _ _ h => h) (Or.inl ⟨by rfl, ?_⟩) ?_ ?_
                rotate_left
                · intro w'
                  go_simp
                  with_reducible rfl
                rotate_left
                · simp only [Act.put, List.setIfInBounds_toArray, List.set_cons_zero, List.set_cons_succ, i64_w, i32_w]
                  rfl
                refine take_ (i := 3) (N := some 20) (v := ?_) (a' := ?_) #[true, true, true, true, true, true, true, false, false, false] rfl rfl (take_ofW HT_.out HW_.out (by kernel_rfl)) (fun _ _ _ h => h) (Or.inl ⟨by rfl, ?_⟩) hHeld ?_ ?_
                rotate_left
                · rintro w' ⟨s0, s1, s2, s3, s4, s5, s6, s7, s8, s9⟩
                  go_simp
                  with_reducible rfl
                rotate_left
                · simp only [Act.put, List.setIfInBounds_toArray, List.set_cons_zero, List.set_cons_succ, i64_w, i32_w]
                  rfl
                refine take_ (i := 7) (N := some 24) (v := ?_) (a' := ?_) #[true, true, true, true, true, true, true, true, false, false] rfl rfl (take_ofW HT_.out HW_.out (by kernel_rfl)) (fun _ _ _ h => h) (Or.inl ⟨by rfl, ?_⟩) hHeld ?_ ?_
                rotate_left
                · rintro w' ⟨s0, s1, s2, s3, s4, s5, s6, s7, s8, s9⟩
                  go_simp
                  with_reducible rfl
                rotate_left
                · simp only [Act.put, List.setIfInBounds_toArray, List.set_cons_zero, List.set_cons_succ, i64_w, i32_w]
                  rfl
                refine one_ (i := 8) (N := some 25) #[true, true, true, true, true, true, true, true, true, false] rfl rfl (one_of HT_.out (by kernel_rfl)) (by decide) (fun K hK => ?_)
                refine goes_ Tryd.func22 (by kernel_rfl) rfl #[.agg #[.int .i64 ((rd_T40 l0 x5_1).f0), .int .i64 ((rd_T40 l0 x5_1).f1), .string ((rd_T40 l0 x5_1).f2), .slice A177_3 ((rd_T40 l0 x5_1).f3).length c177_3, .slice A177_4 ((rd_T40 l0 x5_1).f4).length c177_4], .agg #[.int .i64 ((rd_T40 l1 x5_1).f0), .int .i64 ((rd_T40 l1 x5_1).f1), .string ((rd_T40 l1 x5_1).f2), .slice A178_3 ((rd_T40 l1 x5_1).f3).length c178_3, .slice A178_4 ((rd_T40 l1 x5_1).f4).length c178_4]] (by rfl) rfl rfl (by (try simp only [List.map_toArray, List.map_cons, List.map_nil]); first | done | rfl | (simp only [List.length_drop, List.length_take]; rfl)) ?_
                with_reducible refine (chancelref05_Same.calls k1 ((rd_T40 l0 x5_1).f0) ((rd_T40 l0 x5_1).f1) ((rd_T40 l0 x5_1).f2) _ _ ((rd_T40 l0 x5_1).f3) _ _ ((rd_T40 l0 x5_1).f4) ((rd_T40 l1 x5_1).f0) ((rd_T40 l1 x5_1).f1) ((rd_T40 l1 x5_1).f2) _ _ ((rd_T40 l1 x5_1).f3) _ _ ((rd_T40 l1 x5_1).f4) true _ ?side1 ?side2 ?side3 ?side4 ?side5 ?side6 ?side7 ?side8 A7.out).mono ?_
                (case side1 => repeat (first | exact (Kd.C_below HR177_3.out HB.out) | (with_reducible refine Kd.C_alloc ?_ _) | (with_reducible refine Kd.C_drewN ?_ _) | (with_reducible refine Kd.C_drew ?_)))
                (case side2 => exact HC177_3.out)
                (case side3 => repeat (first | exact (Kd.C_below HR177_4.out HB.out) | (with_reducible refine Kd.C_alloc ?_ _) | (with_reducible refine Kd.C_drewN ?_ _) | (with_reducible refine Kd.C_drew ?_)))
                (case side4 => exact HC177_4.out)
                (case side5 => repeat (first | exact (Kd.C_below HR178_3.out HB.out) | (with_reducible refine Kd.C_alloc ?_ _) | (with_reducible refine Kd.C_drewN ?_ _) | (with_reducible refine Kd.C_drew ?_)))
                (case side6 => exact HC178_3.out)
                (case side7 => repeat (first | exact (Kd.C_below HR178_4.out HB.out) | (with_reducible refine Kd.C_alloc ?_ _) | (with_reducible refine Kd.C_drewN ?_ _) | (with_reducible refine Kd.C_drew ?_)))
                (case side8 => exact HC178_4.out)
                rintro e w10 ⟨rfl, hb⟩
                refine ⟨_, rfl, ?_⟩
                have n0_ := Aside0.mk (below_step (by repeat (first | (with_reducible first | exact HB.out | apply below_alloc | apply pw_below_drewN | apply below_drew1) | exact HB.out)) hb)
                clear HB
                have HB := n0_
                clear n0_
                (try clear hb)
                (try clear hb2)
                (try clear hk)
                (try clear hi)
                refine hK.out _ _ ⟨((HB.out.cell (World.block_lt_of_cell? w _ hw177_0)).trans hw177_0), ((HB.out.cell (World.block_lt_of_cell? w _ hw177_1)).trans hw177_1), ((HB.out.cell (World.block_lt_of_cell? w _ hw177_2)).trans hw177_2), ((HB.out.cell (World.block_lt_of_cell? w _ hw177_3)).trans hw177_3), ((HB.out.cell (World.block_lt_of_cell? w _ hw177_4)).trans hw177_4), ((HB.out.cell (World.block_lt_of_cell? w _ hw178_0)).trans hw178_0), ((HB.out.cell (World.block_lt_of_cell? w _ hw178_1)).trans hw178_1), ((HB.out.cell (World.block_lt_of_cell? w _ hw178_2)).trans hw178_2), ((HB.out.cell (World.block_lt_of_cell? w _ hw178_3)).trans hw178_3), ((HB.out.cell (World.block_lt_of_cell? w _ hw178_4)).trans hw178_4)⟩ (fun hHeld => ?_)
                clear hK K
                refine norm_ (a' := ?_) ?_ ?_
                rotate_left
                · show Act.put _ (some 25) _ = _
                  simp only [Act.put, List.setIfInBounds_toArray, List.set_cons_zero, List.set_cons_succ, i64_w, i32_w]
                  rfl
                refine pure_ (i := 9) (N := some 26) (v := ?_) (a' := ?_) #[true, true, true, true, true, true, true, true, true, true] rfl rfl (any_of HT_.out (by kernel_rfl)) (fun _ _ _ h => h) (Or.inl ⟨by rfl, ?_⟩) ?_ ?_
                rotate_left
                · intro w'
                  go_simp
                  with_reducible rfl
                rotate_left
                · simp only [Act.put, List.setIfInBounds_toArray, List.set_cons_zero, List.set_cons_succ, i64_w, i32_w]
                  rfl
                refine done_ (done_of HT_.out (by kernel_rfl)) ?_
                try go_wp2
                go_roundg k1
                case measure => have := HK1.out; omega
                case rel => exact ⟨(wrap64 (x5_1 + 1)), (by first | rfl | (simp; done) | (simp [*]; done)), H', ⟨by have := HK1.out; omega⟩, ⟨by repeat (first | (with_reducible first | exact HB.out | apply below_alloc | apply pw_below_drewN | apply below_drew1) | exact HB.out)⟩⟩
              · replace c8 := Bool.eq_false_iff.mpr c8
                subst c8
                have H1 : (some false) = some r := by rw [if_neg (show ¬ (false = true) by decide)] at H; exact H
                clear H
                have H := H1
                clear H1
                obtain rfl := Option.some.inj H
                try go_wp2
                have n0_ := Aside0.mk (below_drew1 HB.out)
                clear HB
                have HB := n0_
                clear n0_
                have p177 : 0 ≤ (x5_1 : Int) := of_decide_eq_true (by first | (with_reducible assumption) | assumption)
                have q177 : x5_1 < (l0.length : Int) := of_decide_eq_true (by first | (with_reducible assumption) | assumption)
                obtain ⟨ad177, A177_3, c177_3, A177_4, c177_4, e177, hx177_0, hx177_1, hx177_2, hx177_3, hx177_4, hl177_3, hi177_3, hl177_4, hi177_4⟩ := at_T40 HR0.out x5_1 p177 q177
                have hw177_4 := hx177_4
                have hw177_3 := hx177_3
                have hw177_2 := hx177_2
                have hw177_1 := hx177_1
                have hw177_0 := hx177_0
                cases e177
                replace hx177_0 := (HB.out.cell (World.block_lt_of_cell? w _ hx177_0)).trans hx177_0
                replace hx177_1 := (HB.out.cell (World.block_lt_of_cell? w _ hx177_1)).trans hx177_1
                replace hx177_2 := (HB.out.cell (World.block_lt_of_cell? w _ hx177_2)).trans hx177_2
                replace hx177_3 := (HB.out.cell (World.block_lt_of_cell? w _ hx177_3)).trans hx177_3
                replace hx177_4 := (HB.out.cell (World.block_lt_of_cell? w _ hx177_4)).trans hx177_4
                have HR177_3 := Aside0.mk hi177_3
                have HC177_3 := Aside0.mk hl177_3
                clear hi177_3 hl177_3
                have HR177_4 := Aside0.mk hi177_4
                have HC177_4 := Aside0.mk hl177_4
                clear hi177_4 hl177_4
                replace p177 := eq_true p177
                replace q177 := eq_true q177
                have p178 : 0 ≤ (x5_1 : Int) := of_decide_eq_true (by first | (with_reducible assumption) | assumption)
                have q178 : x5_1 < (l1.length : Int) := of_decide_eq_true (by first | (with_reducible assumption) | assumption)
                obtain ⟨ad178, A178_3, c178_3, A178_4, c178_4, e178, hx178_0, hx178_1, hx178_2, hx178_3, hx178_4, hl178_3, hi178_3, hl178_4, hi178_4⟩ := at_T40 HR1.out x5_1 p178 q178
                have hw178_4 := hx178_4
                have hw178_3 := hx178_3
                have hw178_2 := hx178_2
                have hw178_1 := hx178_1
                have hw178_0 := hx178_0
                cases e178
                replace hx178_0 := (HB.out.cell (World.block_lt_of_cell? w _ hx178_0)).trans hx178_0
                replace hx178_1 := (HB.out.cell (World.block_lt_of_cell? w _ hx178_1)).trans hx178_1
                replace hx178_2 := (HB.out.cell (World.block_lt_of_cell? w _ hx178_2)).trans hx178_2
                replace hx178_3 := (HB.out.cell (World.block_lt_of_cell? w _ hx178_3)).trans hx178_3
                replace hx178_4 := (HB.out.cell (World.block_lt_of_cell? w _ hx178_4)).trans hx178_4
                have HR178_3 := Aside0.mk hi178_3
                have HC178_3 := Aside0.mk hl178_3
                clear hi178_3 hl178_3
                have HR178_4 := Aside0.mk hi178_4
                have HC178_4 := Aside0.mk hl178_4
                clear hi178_4 hl178_4
                replace p178 := eq_true p178
                replace q178 := eq_true q178
                refine start_ (n := 10) (S := fun w' => w'.cell? (ad177.add ((x5_1).toNat * 5)) = some (.int .i64 ((rd_T40 l0 x5_1).f0)) ∧ w'.cell? ⟨(ad177.add ((x5_1).toNat * 5)).block, (ad177.add ((x5_1).toNat * 5)).off + 1, none⟩ = some (.int .i64 ((rd_T40 l0 x5_1).f1)) ∧ w'.cell? ⟨(ad177.add ((x5_1).toNat * 5)).block, (ad177.add ((x5_1).toNat * 5)).off + 2, none⟩ = some (.string ((rd_T40 l0 x5_1).f2)) ∧ w'.cell? ⟨(ad177.add ((x5_1).toNat * 5)).block, (ad177.add ((x5_1).toNat * 5)).off + 3, none⟩ = some (.slice A177_3 ((rd_T40 l0 x5_1).f3).length c177_3) ∧ w'.cell? ⟨(ad177.add ((x5_1).toNat * 5)).block, (ad177.add ((x5_1).toNat * 5)).off + 4, none⟩ = some (.slice A177_4 ((rd_T40 l0 x5_1).f4).length c177_4) ∧ w'.cell? (ad178.add ((x5_1).toNat * 5)) = some (.int .i64 ((rd_T40 l1 x5_1).f0)) ∧ w'.cell? ⟨(ad178.add ((x5_1).toNat * 5)).block, (ad178.add ((x5_1).toNat * 5)).off + 1, none⟩ = some (.int .i64 ((rd_T40 l1 x5_1).f1)) ∧ w'.cell? ⟨(ad178.add ((x5_1).toNat * 5)).block, (ad178.add ((x5_1).toNat * 5)).off + 2, none⟩ = some (.string ((rd_T40 l1 x5_1).f2)) ∧ w'.cell? ⟨(ad178.add ((x5_1).toNat * 5)).block, (ad178.add ((x5_1).toNat * 5)).off + 3, none⟩ = some (.slice A178_3 ((rd_T40 l1 x5_1).f3).length c178_3) ∧ w'.cell? ⟨(ad178.add ((x5_1).toNat * 5)).block, (ad178.add ((x5_1).toNat * 5)).off + 4, none⟩ = some (.slice A178_4 ((rd_T40 l1 x5_1).f4).length c178_4)) (ds := []) #[false, false, false, false, false, false, false, false, false, false] (by kernel_rfl) rfl rfl ⟨((HB.out.cell (World.block_lt_of_cell? w _ hw177_0)).trans hw177_0), ((HB.out.cell (World.block_lt_of_cell? w _ hw177_1)).trans hw177_1), ((HB.out.cell (World.block_lt_of_cell? w _ hw177_2)).trans hw177_2), ((HB.out.cell (World.block_lt_of_cell? w _ hw177_3)).trans hw177_3), ((HB.out.cell (World.block_lt_of_cell? w _ hw177_4)).trans hw177_4), ((HB.out.cell (World.block_lt_of_cell? w _ hw178_0)).trans hw178_0), ((HB.out.cell (World.block_lt_of_cell? w _ hw178_1)).trans hw178_1), ((HB.out.cell (World.block_lt_of_cell? w _ hw178_2)).trans hw178_2), ((HB.out.cell (World.block_lt_of_cell? w _ hw178_3)).trans hw178_3), ((HB.out.cell (World.block_lt_of_cell? w _ hw178_4)).trans hw178_4)⟩ (fun hHeld => ?_); refine with_tabW chancelref06_Same.tab6 chancelref06_Same.bits6 (fun HT_ HW_ => ?_)
                generalize wr.drew = w11 at HB HR177_3 HR177_4 HR178_3 HR178_4 hx177_0 hx177_1 hx177_2 hx177_3 hx177_4 hx178_0 hx178_1 hx178_2 hx178_3 hx178_4 hHeld ⊢
                refine pure_ (i := 0) (N := some 17) (v := ?_) (a' := ?_) #[true, false, false, false, false, false, false, false, false, false] rfl rfl (any_of HT_.out (by kernel_rfl)) (fun _ _ _ h => h) (Or.inl ⟨by rfl, ?_⟩) ?_ ?_
                rotate_left
                · intro w'
                  go_simp
                  with_reducible rfl
                rotate_left
                · simp only [Act.put, List.setIfInBounds_toArray, List.set_cons_zero, List.set_cons_succ, i64_w, i32_w]
                  rfl
                refine pure_ (i := 1) (N := some 18) (v := ?_) (a' := ?_) #[true, true, false, false, false, false, false, false, false, false] rfl rfl (any_of HT_.out (by kernel_rfl)) (fun _ _ _ h => h) (Or.inl ⟨by rfl, ?_⟩) ?_ ?_
                rotate_left
                · intro w'
                  go_simp
                  with_reducible rfl
                rotate_left
                · simp only [Act.put, List.setIfInBounds_toArray, List.set_cons_zero, List.set_cons_succ, i64_w, i32_w]
                  rfl
                refine pure_ (i := 2) (N := some 19) (v := ?_) (a' := ?_) #[true, true, true, false, false, false, false, false, false, false] rfl rfl (any_of HT_.out (by kernel_rfl)) (fun _ _ _ h => h) (Or.inl ⟨by rfl, ?_⟩) ?_ ?_
                rotate_left
                · intro w'
                  go_simp
                  with_reducible rfl
                rotate_left
                · simp only [Act.put, List.setIfInBounds_toArray, List.set_cons_zero, List.set_cons_succ, i64_w, i32_w]
                  rfl
                refine pure_ (i := 4) (N := some 21) (v := ?_) (a' := ?_) #[true, true, true, false, true, false, false, false, false, false] rfl rfl (any_of HT_.out (by kernel_rfl)) (fun _ _ _ h => h) (Or.inl ⟨by rfl, ?_⟩) ?_ ?_
                rotate_left
                · intro w'
                  go_simp
                  with_reducible rfl
                rotate_left
                · simp only [Act.put, List.setIfInBounds_toArray, List.set_cons_zero, List.set_cons_succ, i64_w, i32_w]
                  rfl
                refine pure_ (i := 5) (N := some 22) (v := ?_) (a' := ?_) #[true, true, true, false, true, true, false, false, false, false] rfl rfl (any_of HT_.out (by kernel_rfl)) (fun _ _ _ h => h) (Or.inl ⟨by rfl, ?_⟩) ?_ ?_
                rotate_left
                · intro w'
                  go_simp
                  with_reducible rfl
                rotate_left
                · simp only [Act.put, List.setIfInBounds_toArray, List.set_cons_zero, List.set_cons_succ, i64_w, i32_w]
                  rfl
                refine pure_ (i := 6) (N := some 23) (v := ?_) (a' := ?_) #[true, true, true, false, true, true, true, false, false, false] rfl rfl (any_of HT_.out (by kernel_rfl)) (fun _ _ _ h => h) (Or.inl ⟨by rfl, ?_⟩) ?_ ?_
                rotate_left
                · intro w'
                  go_simp
                  with_reducible rfl
                rotate_left
                · simp only [Act.put, List.setIfInBounds_toArray, List.set_cons_zero, List.set_cons_succ, i64_w, i32_w]
                  rfl
                refine take_ (i := 3) (N := some 20) (v := ?_) (a' := ?_) #[true, true, true, true, true, true, true, false, false, false] rfl rfl (take_ofW HT_.out HW_.out (by kernel_rfl)) (fun _ _ _ h => h) (Or.inl ⟨by rfl, ?_⟩) hHeld ?_ ?_
                rotate_left
                · rintro w' ⟨s0, s1, s2, s3, s4, s5, s6, s7, s8, s9⟩
                  go_simp
                  with_reducible rfl
                rotate_left
                · simp only [Act.put, List.setIfInBounds_toArray, List.set_cons_zero, List.set_cons_succ, i64_w, i32_w]
                  rfl
                refine take_ (i := 7) (N := some 24) (v := ?_) (a' := ?_) #[true, true, true, true, true, true, true, true, false, false] rfl rfl (take_ofW HT_.out HW_.out (by kernel_rfl)) (fun _ _ _ h => h) (Or.inl ⟨by rfl, ?_⟩) hHeld ?_ ?_
                rotate_left
                · rintro w' ⟨s0, s1, s2, s3, s4, s5, s6, s7, s8, s9⟩
                  go_simp
                  with_reducible rfl
                rotate_left
                · simp only [Act.put, List.setIfInBounds_toArray, List.set_cons_zero, List.set_cons_succ, i64_w, i32_w]
                  rfl
                refine one_ (i := 8) (N := some 25) #[true, true, true, true, true, true, true, true, true, false] rfl rfl (one_of HT_.out (by kernel_rfl)) (by decide) (fun K hK => ?_)
                refine goes_ Tryd.func22 (by kernel_rfl) rfl #[.agg #[.int .i64 ((rd_T40 l0 x5_1).f0), .int .i64 ((rd_T40 l0 x5_1).f1), .string ((rd_T40 l0 x5_1).f2), .slice A177_3 ((rd_T40 l0 x5_1).f3).length c177_3, .slice A177_4 ((rd_T40 l0 x5_1).f4).length c177_4], .agg #[.int .i64 ((rd_T40 l1 x5_1).f0), .int .i64 ((rd_T40 l1 x5_1).f1), .string ((rd_T40 l1 x5_1).f2), .slice A178_3 ((rd_T40 l1 x5_1).f3).length c178_3, .slice A178_4 ((rd_T40 l1 x5_1).f4).length c178_4]] (by rfl) rfl rfl (by (try simp only [List.map_toArray, List.map_cons, List.map_nil]); first | done | rfl | (simp only [List.length_drop, List.length_take]; rfl)) ?_
                with_reducible refine (chancelref05_Same.calls k1 ((rd_T40 l0 x5_1).f0) ((rd_T40 l0 x5_1).f1) ((rd_T40 l0 x5_1).f2) _ _ ((rd_T40 l0 x5_1).f3) _ _ ((rd_T40 l0 x5_1).f4) ((rd_T40 l1 x5_1).f0) ((rd_T40 l1 x5_1).f1) ((rd_T40 l1 x5_1).f2) _ _ ((rd_T40 l1 x5_1).f3) _ _ ((rd_T40 l1 x5_1).f4) false _ ?side1 ?side2 ?side3 ?side4 ?side5 ?side6 ?side7 ?side8 A7.out).mono ?_
                (case side1 => repeat (first | exact (Kd.C_below HR177_3.out HB.out) | (with_reducible refine Kd.C_alloc ?_ _) | (with_reducible refine Kd.C_drewN ?_ _) | (with_reducible refine Kd.C_drew ?_)))
                (case side2 => exact HC177_3.out)
                (case side3 => repeat (first | exact (Kd.C_below HR177_4.out HB.out) | (with_reducible refine Kd.C_alloc ?_ _) | (with_reducible refine Kd.C_drewN ?_ _) | (with_reducible refine Kd.C_drew ?_)))
                (case side4 => exact HC177_4.out)
                (case side5 => repeat (first | exact (Kd.C_below HR178_3.out HB.out) | (with_reducible refine Kd.C_alloc ?_ _) | (with_reducible refine Kd.C_drewN ?_ _) | (with_reducible refine Kd.C_drew ?_)))
                (case side6 => exact HC178_3.out)
                (case side7 => repeat (first | exact (Kd.C_below HR178_4.out HB.out) | (with_reducible refine Kd.C_alloc ?_ _) | (with_reducible refine Kd.C_drewN ?_ _) | (with_reducible refine Kd.C_drew ?_)))
                (case side8 => exact HC178_4.out)
                rintro e w12 ⟨rfl, hb⟩
                refine ⟨_, rfl, ?_⟩
                have n0_ := Aside0.mk (below_step (by repeat (first | (with_reducible first | exact HB.out | apply below_alloc | apply pw_below_drewN | apply below_drew1) | exact HB.out)) hb)
                clear HB
                have HB := n0_
                clear n0_
                (try clear hb)
                (try clear hb2)
                (try clear hk)
                (try clear hi)
                refine hK.out _ _ ⟨((HB.out.cell (World.block_lt_of_cell? w _ hw177_0)).trans hw177_0), ((HB.out.cell (World.block_lt_of_cell? w _ hw177_1)).trans hw177_1), ((HB.out.cell (World.block_lt_of_cell? w _ hw177_2)).trans hw177_2), ((HB.out.cell (World.block_lt_of_cell? w _ hw177_3)).trans hw177_3), ((HB.out.cell (World.block_lt_of_cell? w _ hw177_4)).trans hw177_4), ((HB.out.cell (World.block_lt_of_cell? w _ hw178_0)).trans hw178_0), ((HB.out.cell (World.block_lt_of_cell? w _ hw178_1)).trans hw178_1), ((HB.out.cell (World.block_lt_of_cell? w _ hw178_2)).trans hw178_2), ((HB.out.cell (World.block_lt_of_cell? w _ hw178_3)).trans hw178_3), ((HB.out.cell (World.block_lt_of_cell? w _ hw178_4)).trans hw178_4)⟩ (fun hHeld => ?_)
                clear hK K
                refine norm_ (a' := ?_) ?_ ?_
                rotate_left
                · show Act.put _ (some 25) _ = _
                  simp only [Act.put, List.setIfInBounds_toArray, List.set_cons_zero, List.set_cons_succ, i64_w, i32_w]
                  rfl
                refine pure_ (i := 9) (N := some 26) (v := ?_) (a' := ?_) #[true, true, true, true, true, true, true, true, true, true] rfl rfl (any_of HT_.out (by kernel_rfl)) (fun _ _ _ h => h) (Or.inl ⟨by rfl, ?_⟩) ?_ ?_
                rotate_left
                · intro w'
                  go_simp
                  with_reducible rfl
                rotate_left
                · simp only [Act.put, List.setIfInBounds_toArray, List.set_cons_zero, List.set_cons_succ, i64_w, i32_w]
                  rfl
                refine done_ (done_of HT_.out (by kernel_rfl)) ?_
                try go_wp2
                go_ret
                exact ⟨by first | rfl | (simp [errW_none, errW_some] <;> rfl) | (simp [*, errW_none, errW_some] <;> rfl), by repeat (first | (with_reducible first | exact HB.out | apply below_alloc | apply pw_below_drewN | apply below_drew1) | exact HB.out)⟩
            · rw [if_neg c6] at H
              exact absurd H (by simp)
          · rw [if_neg c5] at H
            exact absurd H (by simp)
        · rw [if_neg c4] at H
          have c4b0 : decide (x5_1 < (l0.length : Int)) = false := decide_eq_false c4
          clear c4
          obtain rfl := Option.some.inj H
          go_wp2
          go_ret
          exact ⟨by first | rfl | (simp [errW_none, errW_some] <;> rfl) | (simp [*, errW_none, errW_some] <;> rfl), by repeat (first | (with_reducible first | exact HB.out | apply below_alloc | apply pw_below_drewN | apply below_drew1) | exact HB.out)⟩
  · rw [if_neg c3] at H
    have c3b0 : ((l0.length : Int) == (l1.length : Int)) = false := beq_eq_false_iff_ne.mpr c3
    have c3b1 : ((l0.length : Int) != (l1.length : Int)) = true := bne_iff_ne.mpr c3
    have c3b2 : (l0.length == l1.length) = false := by first | simpa using c3 | (simp at c3 ⊢; omega)
    obtain rfl := Option.some.inj H
    go_enter Tryd.func15, Tryd.ntmps15
    go_wp2
    go_ret
    exact ⟨by first | rfl | (simp [errW_none, errW_some] <;> rfl) | (simp [*, errW_none, errW_some] <;> rfl), by repeat (first | (with_reducible first | exact HB.out | apply below_alloc | apply pw_below_drewN | apply below_drew1) | exact HB.out)⟩

-- NOT PRINTED: function 77 (abi_NoEscape)

-- NOT PRINTED: function 70 (strings_Builder_copyCheck)

-- NOT PRINTED: function 78 (bytealg_MakeNoZero)

-- NOT PRINTED: function 71 (strings_Builder_grow)

-- NOT PRINTED: function 58 (strings_Builder_Grow)

-- NOT PRINTED: function 59 (strings_Builder_WriteString)

-- NOT PRINTED: function 60 (strings_Builder_String)

-- NOT PRINTED: function 38 (strings_Join)

-- NOT PRINTED: function 39 (rope_Rope_Parts)

-- NOT PRINTED: function 19 (rope_Rope_Text)

-- NOT PRINTED: function 23 (segment_Segment_Plain)

-- NOT PRINTED: function 16 (sheet_Sheet_Plain)

-- NOT PRINTED: function 56 (segment_Segment_56)

-- NOT PRINTED: function 37 (sheet_Sheet_place)

-- NOT PRINTED: function 67 (segment_Segment_67)

-- NOT PRINTED: function 50 (segment_Segment_50)

-- NOT PRINTED: function 27 (sheet_Sheet_After)

-- NOT PRINTED: function 28 (segment_New)

/-! ### chancelref06_After: function 29 -/
def chancelref06_After.l0 : Nat → List (S40) → List (S40) → Int → Int → Option ((List (S40)) × Bool)
  | 0, _, _, _, _ => none
  | k + 1, x0, x2, x8, x9 => if x9 < (x2.length : Int) then (if 0 ≤ x9 then ((chancelref06_Place.f k x0 ((rd_T40 x2 x9).f0)).bind fun t202 => (if t202 ≥ 0 then (some (x0, false)) else ((chancelref06_Place.f k x2 ((rd_T40 x2 x9).f0)).bind fun t204 => (if t204 = x9 then (chancelref06_After.l0 k x0 x2 x8 (wrap64 (x9 + 1))) else (some (x0, false)))))) else (none)) else (if x8 < 0 then (some (x0, false)) else (if 0 ≤ (wrap64 (x8 + 1)) then (if (wrap64 (x8 + 1)) ≤ (x0.length : Int) then ((some (x0.take ((wrap64 (x8 + 1)) : Int).toNat : List (S40))).bind fun y182 => (if ([] : List (S40)).length + y182.length < 1759218604441 then ((some (([] : List (S40)) ++ y182 : List (S40))).bind fun y187 => (if y187.length + x2.length < 1759218604441 then ((some (y187 ++ x2 : List (S40))).bind fun y190 => ((some (x0.drop ((wrap64 (x8 + 1)) : Int).toNat : List (S40))).bind fun y193 => (if y190.length + y193.length < 1759218604441 then (some ((y190 ++ y193), true)) else (none)))) else (none))) else (none))) else (none)) else (none)))
def chancelref06_After.f (k : Nat) (l0 : List (S40)) (a1 : Int) (l2 : List (S40)) : Option ((List (S40)) × Bool) := (chancelref06_Place.f k l0 a1).bind fun t181 => (chancelref06_After.l0 k l0 l2 t181 0)
theorem chancelref06_After.mono_l : ∀ k, (∀ y0 y1 y2 y3, LeO (chancelref06_After.l0 k y0 y1 y2 y3) (chancelref06_After.l0 (k + 1) y0 y1 y2 y3))
  | 0 => fun _ _ _ _ r h => by simp [chancelref06_After.l0] at h
  | k + 1 => by
    have ih0 := chancelref06_After.mono_l k
    · intro y0 y1 y2 y3
      unfold chancelref06_After.l0
      repeat' first
      | (with_reducible exact ih0 _ _ _ _)
      | (with_reducible exact chancelref06_Place.mono _ _ _)
      | (with_reducible exact LeO.refl _)
      | (with_reducible exact LeO.none _)
      | (with_reducible refine LeO.ite ?_ ?_)
      | (with_reducible refine LeO.bind ?_ (fun _ => ?_))
      | exact ih0 _ _ _ _
      | exact chancelref06_Place.mono _ _ _
      | exact LeO.none _
      | refine LeO.ite ?_ ?_
      | refine LeO.bind ?_ (fun _ => ?_)
theorem chancelref06_After.mono : ∀ a0 a1 a2 k, LeO (chancelref06_After.f k a0 a1 a2) (chancelref06_After.f (k + 1) a0 a1 a2) := by
  intro a0 a1 a2 k
  have ih0 := chancelref06_After.mono_l k
  unfold chancelref06_After.f
  repeat' first
      | (with_reducible exact ih0 _ _ _ _)
      | (with_reducible exact chancelref06_Place.mono _ _ _)
      | (with_reducible exact LeO.refl _)
      | (with_reducible exact LeO.none _)
      | (with_reducible refine LeO.ite ?_ ?_)
      | (with_reducible refine LeO.bind ?_ (fun _ => ?_))
      | exact ih0 _ _ _ _
      | exact chancelref06_Place.mono _ _ _
      | exact LeO.none _
      | refine LeO.ite ?_ ?_
      | refine LeO.bind ?_ (fun _ => ?_)
set_option maxHeartbeats 8000000 in
set_option maxRecDepth 100000 in
theorem chancelref06_After.calls (k : Nat) (P0_ : Nat → Prop) (A0 : Option Addr) (c0 : Nat) (l0 : List (S40)) (a1 : Int) (P2_ : Nat → Prop) (A2 : Option Addr) (c2 : Nat) (l2 : List (S40)) (r1 : List (S40)) (r2 : Bool) (w : World) (hs0 : Kd.V k40 40 w w.heap.size (fun k_ => P0_ k_) (.slice A0 l0.length c0) l0) (hs2 : Kd.V k40 40 w w.heap.size (fun k_ => P2_ k_) (.slice A2 l2.length c2) l2) (h : chancelref06_After.f k l0 a1 l2 = some (r1, r2)) :
    Calls Tryd.prog 29 #[.slice A0 l0.length c0, .int .i64 a1, .slice A2 l2.length c2] w fun e w' => ∃ v0_ : Value, e = .returned (.tuple #[v0_, .bool r2]) ∧ Kd.V k40 40 w' w.heap.size (fun k_ => ((P0_ k_ ∨ P2_ k_) ∨ w.heap.size ≤ k_)) v0_ r1 ∧ Below w.heap.size w w' := by
  have HO0 := Aside0.mk (show Kd.V k40 40 w w.heap.size (fun k_ => ((P0_ k_ ∨ P2_ k_) ∨ w.heap.size ≤ k_)) (.slice A0 l0.length c0) l0 from Kd.V_mono hs0 (fun k_ hk => .inl (.inl hk)))
  have HO2 := Aside0.mk (show Kd.V k40 40 w w.heap.size (fun k_ => ((P0_ k_ ∨ P2_ k_) ∨ w.heap.size ≤ k_)) (.slice A2 l2.length c2) l2 from Kd.V_mono hs2 (fun k_ hk => .inl (.inr hk)))
  have HB := Aside0.mk (Below.refl w.heap.size w)
  have H : ((chancelref06_Place.f k l0 a1).bind fun t181 => (chancelref06_After.l0 k l0 l2 t181 0)) = some (r1, r2) := h
  clear h
  replace H := Option.bind_eq_some_iff.mp H
  obtain ⟨t181, A40, H⟩ := H
  replace H : (chancelref06_After.l0 k l0 l2 t181 0) = some (r1, r2) := H
  have A4 := Aside0.mk A40
  clear A40
  have H' := Aside0.mk H
  clear H
  go_enter Tryd.func29, Tryd.ntmps29
  go_wp2_with (first | ((with_reducible refine gate_callee (f := 21) rfl ?_); refine goesL_ (some 13) rfl rfl Tryd.func21 (by kernel_rfl) rfl #[.slice A0 l0.length c0, .int .i64 a1] rfl (by (try simp only [List.map_toArray, List.map_cons, List.map_nil]); first | done | rfl | (simp only [List.length_drop, List.length_take]; rfl)) ?_; (with_reducible refine (chancelref06_Place.calls k _ _ l0 a1 t181 _ ?side1 ?side2 A4.out).mono ?_); (case side1 => repeat (first | exact (Kd.V_reads' HO0.out).2.2 | (with_reducible refine Kd.C_alloc ?_ _) | (with_reducible refine Kd.C_drewN ?_ _) | (with_reducible refine Kd.C_drew ?_))); (case side2 => exact (Kd.V_reads' HO0.out).2.1); rintro e w' ⟨rfl, ⟨nd, rfl⟩⟩; refine ⟨_, rfl, ?_⟩))
  go_loopg [9] k (fun kq v9 w' => ∃ (x9_1 : Int), v9 = .int .i64 x9_1 ∧ Aside0 (chancelref06_After.l0 kq l0 l2 t181 x9_1 = some (r1, r2)) ∧ Aside0 (kq ≤ k) ∧ Aside0 (Kd.V k40 40 w' w.heap.size (fun k_ => ((P0_ k_ ∨ P2_ k_) ∨ w.heap.size ≤ k_)) (.slice A0 l0.length c0) l0) ∧ Aside0 (Kd.V k40 40 w' w.heap.size (fun k_ => ((P0_ k_ ∨ P2_ k_) ∨ w.heap.size ≤ k_)) (.slice A2 l2.length c2) l2) ∧ Aside0 (Below w.heap.size w w'))
  case atStart => exact ⟨(0), (by first | rfl | (simp; done) | (simp [*]; done)), H', ⟨Nat.le_refl _⟩, ⟨by (with_reducible repeat (first | apply Kd.V_alloc | apply Kd.V_drewN | apply Kd.V_drew)); exact HO0.out⟩, ⟨by (with_reducible repeat (first | apply Kd.V_alloc | apply Kd.V_drewN | apply Kd.V_drew)); exact HO2.out⟩, ⟨by repeat (first | (with_reducible first | exact HB.out | apply below_alloc | apply pw_below_drewN | apply below_drew1) | exact HB.out)⟩⟩
  case round =>
    clear H'
    try clear c2
    try clear p2
    obtain ⟨x9_1, rfl, HA, HK1, HO_0, HO_2, HB⟩ := hrel
    cases gk with
    | zero => exact absurd HA.out (by simp [chancelref06_After.l0])
    | succ k1 =>
      have H := HA.out
      clear HA
      simp only [chancelref06_After.l0] at H
      by_cases c5 : x9_1 < (l2.length : Int)
      · rw [if_pos c5] at H
        have c5b0 : decide (x9_1 < (l2.length : Int)) = true := decide_eq_true c5
        clear c5
        by_cases c6 : 0 ≤ x9_1
        · rw [if_pos c6] at H
          have c6b0 : decide (0 ≤ x9_1) = true := decide_eq_true c6
          clear c6
          replace H := Option.bind_eq_some_iff.mp H
          obtain ⟨t202, A70, H⟩ := H
          replace H : (if t202 ≥ 0 then (some (l0, false)) else ((chancelref06_Place.f k1 l2 ((rd_T40 l2 x9_1).f0)).bind fun t204 => (if t204 = x9_1 then (chancelref06_After.l0 k1 l0 l2 t181 (wrap64 (x9_1 + 1))) else (some (l0, false))))) = some (r1, r2) := H
          have A7 := Aside0.mk A70
          clear A70
          by_cases c8 : t202 ≥ 0
          · rw [if_pos c8] at H
            have c8b0 : decide (0 ≤ t202) = true := decide_eq_true c8
            clear c8
            simp only [Option.some.injEq, Prod.mk.injEq] at H
            obtain ⟨rfl, rfl⟩ := H
            have p201 : 0 ≤ (x9_1 : Int) := of_decide_eq_true (by first | (with_reducible assumption) | assumption)
            have q201 : x9_1 < (l2.length : Int) := of_decide_eq_true (by first | (with_reducible assumption) | assumption)
            obtain ⟨ad201, A201_3, c201_3, A201_4, c201_4, e201, hx201_0, hx201_1, hx201_2, hx201_3, hx201_4, hl201_3, hi201_3, hl201_4, hi201_4⟩ := at_T40 (Kd.V_reads' HO_2.out).2.2 x9_1 p201 q201
            cases e201
            obtain ⟨ce201, hce201, hMe201, hcc201⟩ := Kd.V_get HO_2.out z40 x9_1 p201 (by first | exact q201 | exact of_decide_eq_true (by first | (with_reducible assumption) | assumption) | (have e_ := (Kd.V_reads' HO_2.out).1; omega))
            obtain ⟨ua201_3, uc201_3, ua201_4, uc201_4, rfl, ul201_3, ge201_3, ul201_4, ge201_4⟩ := k40_openF hMe201
            have hv201_3 := hcc201 3 _ rfl
            rw [add_field _ _ 3 (by omega)] at hv201_3
            replace hv201_3 := Option.some.inj (hv201_3.symm.trans hx201_3)
            injection hv201_3 with hva_ hvn_ hvc_
            rw [hva_] at ge201_3
            rw [hvc_] at ul201_3
            have HL201_3 := Aside0.mk (show Kd.V k83 83 _ w.heap.size _ _ ((rd_T40 l2 x9_1).f3) from Kd.V_mk ul201_3 ge201_3)
            clear hva_ hvn_ hvc_ ge201_3 ul201_3
            have hv201_4 := hcc201 4 _ rfl
            rw [add_field _ _ 4 (by omega)] at hv201_4
            replace hv201_4 := Option.some.inj (hv201_4.symm.trans hx201_4)
            injection hv201_4 with hva_ hvn_ hvc_
            rw [hva_] at ge201_4
            rw [hvc_] at ul201_4
            have HL201_4 := Aside0.mk (show Kd.V k86 86 _ w.heap.size _ _ ((rd_T40 l2 x9_1).f4) from Kd.V_mk ul201_4 ge201_4)
            clear hva_ hvn_ hvc_ ge201_4 ul201_4
            clear hcc201 hce201
            have HR201_3 := Aside0.mk hi201_3
            have HC201_3 := Aside0.mk hl201_3
            clear hi201_3 hl201_3
            have HR201_4 := Aside0.mk hi201_4
            have HC201_4 := Aside0.mk hl201_4
            clear hi201_4 hl201_4
            replace p201 := eq_true p201
            replace q201 := eq_true q201
            go_wp2_with (first | ((with_reducible refine gate_callee (f := 21) rfl ?_); refine goesL_ (some 26) rfl rfl Tryd.func21 (by kernel_rfl) rfl #[.slice A0 l0.length c0, .int .i64 ((rd_T40 l2 x9_1).f0)] rfl (by (try simp only [List.map_toArray, List.map_cons, List.map_nil]); first | done | rfl | (simp only [List.length_drop, List.length_take]; rfl)) ?_; (with_reducible refine (chancelref06_Place.calls k1 _ _ l0 ((rd_T40 l2 x9_1).f0) t202 _ ?side1 ?side2 A7.out).mono ?_); (case side1 => repeat (first | exact (Kd.V_reads' HO_0.out).2.2 | (with_reducible refine Kd.C_alloc ?_ _) | (with_reducible refine Kd.C_drewN ?_ _) | (with_reducible refine Kd.C_drew ?_))); (case side2 => exact (Kd.V_reads' HO_0.out).2.1); rintro e w' ⟨rfl, ⟨nd, rfl⟩⟩; refine ⟨_, rfl, ?_⟩))
            go_ret2
            exact ⟨_, by first | rfl | (simp [errW_none, errW_some] <;> rfl) | (simp [*, errW_none, errW_some] <;> rfl), by (with_reducible repeat (first | apply Kd.V_alloc | apply Kd.V_drewN | apply Kd.V_drew)); exact HO_0.out, by repeat (first | (with_reducible first | exact HB.out | apply below_alloc | apply pw_below_drewN | apply below_drew1) | exact HB.out)⟩
          · rw [if_neg c8] at H
            have c8b0 : decide (0 ≤ t202) = false := decide_eq_false c8
            clear c8
            replace H := Option.bind_eq_some_iff.mp H
            obtain ⟨t204, A90, H⟩ := H
            replace H : (if t204 = x9_1 then (chancelref06_After.l0 k1 l0 l2 t181 (wrap64 (x9_1 + 1))) else (some (l0, false))) = some (r1, r2) := H
            have A9 := Aside0.mk A90
            clear A90
            by_cases c10 : t204 = x9_1
            · rw [if_pos c10] at H
              have c10b0 : (t204 == x9_1) = true := beq_iff_eq.mpr c10
              have c10b1 : (t204 != x9_1) = false := bne_eq_false_iff_eq.mpr c10
              clear c10
              have H' := Aside0.mk H
              clear H
              have p201 : 0 ≤ (x9_1 : Int) := of_decide_eq_true (by first | (with_reducible assumption) | assumption)
              have q201 : x9_1 < (l2.length : Int) := of_decide_eq_true (by first | (with_reducible assumption) | assumption)
              obtain ⟨ad201, A201_3, c201_3, A201_4, c201_4, e201, hx201_0, hx201_1, hx201_2, hx201_3, hx201_4, hl201_3, hi201_3, hl201_4, hi201_4⟩ := at_T40 (Kd.V_reads' HO_2.out).2.2 x9_1 p201 q201
              cases e201
              obtain ⟨ce201, hce201, hMe201, hcc201⟩ := Kd.V_get HO_2.out z40 x9_1 p201 (by first | exact q201 | exact of_decide_eq_true (by first | (with_reducible assumption) | assumption) | (have e_ := (Kd.V_reads' HO_2.out).1; omega))
              obtain ⟨ua201_3, uc201_3, ua201_4, uc201_4, rfl, ul201_3, ge201_3, ul201_4, ge201_4⟩ := k40_openF hMe201
              have hv201_3 := hcc201 3 _ rfl
              rw [add_field _ _ 3 (by omega)] at hv201_3
              replace hv201_3 := Option.some.inj (hv201_3.symm.trans hx201_3)
              injection hv201_3 with hva_ hvn_ hvc_
              rw [hva_] at ge201_3
              rw [hvc_] at ul201_3
              have HL201_3 := Aside0.mk (show Kd.V k83 83 _ w.heap.size _ _ ((rd_T40 l2 x9_1).f3) from Kd.V_mk ul201_3 ge201_3)
              clear hva_ hvn_ hvc_ ge201_3 ul201_3
              have hv201_4 := hcc201 4 _ rfl
              rw [add_field _ _ 4 (by omega)] at hv201_4
              replace hv201_4 := Option.some.inj (hv201_4.symm.trans hx201_4)
              injection hv201_4 with hva_ hvn_ hvc_
              rw [hva_] at ge201_4
              rw [hvc_] at ul201_4
              have HL201_4 := Aside0.mk (show Kd.V k86 86 _ w.heap.size _ _ ((rd_T40 l2 x9_1).f4) from Kd.V_mk ul201_4 ge201_4)
              clear hva_ hvn_ hvc_ ge201_4 ul201_4
              clear hcc201 hce201
              have HR201_3 := Aside0.mk hi201_3
              have HC201_3 := Aside0.mk hl201_3
              clear hi201_3 hl201_3
              have HR201_4 := Aside0.mk hi201_4
              have HC201_4 := Aside0.mk hl201_4
              clear hi201_4 hl201_4
              replace p201 := eq_true p201
              replace q201 := eq_true q201
              go_wp2_with (first | ((with_reducible refine gate_callee (f := 21) rfl ?_); refine goesL_ (some 26) rfl rfl Tryd.func21 (by kernel_rfl) rfl #[.slice A0 l0.length c0, .int .i64 ((rd_T40 l2 x9_1).f0)] rfl (by (try simp only [List.map_toArray, List.map_cons, List.map_nil]); first | done | rfl | (simp only [List.length_drop, List.length_take]; rfl)) ?_; (with_reducible refine (chancelref06_Place.calls k1 _ _ l0 ((rd_T40 l2 x9_1).f0) t202 _ ?side1 ?side2 A7.out).mono ?_); (case side1 => repeat (first | exact (Kd.V_reads' HO_0.out).2.2 | (with_reducible refine Kd.C_alloc ?_ _) | (with_reducible refine Kd.C_drewN ?_ _) | (with_reducible refine Kd.C_drew ?_))); (case side2 => exact (Kd.V_reads' HO_0.out).2.1); rintro e w' ⟨rfl, ⟨nd, rfl⟩⟩; refine ⟨_, rfl, ?_⟩; have p203 : 0 ≤ (x9_1 : Int) := of_decide_eq_true (by first | (with_reducible assumption) | assumption); have q203 : x9_1 < (l2.length : Int) := of_decide_eq_true (by first | (with_reducible assumption) | assumption); obtain ⟨ad203, A203_3, c203_3, A203_4, c203_4, e203, hx203_0, hx203_1, hx203_2, hx203_3, hx203_4, hl203_3, hi203_3, hl203_4, hi203_4⟩ := at_T40 (Kd.V_reads' HO_2.out).2.2 x9_1 p203 q203; obtain rfl : ad201 = ad203 := (by injection e203); obtain ⟨ce203, hce203, hMe203, hcc203⟩ := Kd.V_get HO_2.out z40 x9_1 p203 (by first | exact q203 | exact of_decide_eq_true (by first | (with_reducible assumption) | assumption) | (have e_ := (Kd.V_reads' HO_2.out).1; omega)); obtain ⟨ua203_3, uc203_3, ua203_4, uc203_4, rfl, ul203_3, ge203_3, ul203_4, ge203_4⟩ := k40_openF hMe203; have hv203_3 := hcc203 3 _ rfl; rw [add_field _ _ 3 (by omega)] at hv203_3; replace hv203_3 := Option.some.inj (hv203_3.symm.trans hx203_3); injection hv203_3 with hva_ hvn_ hvc_; rw [hva_] at ge203_3; rw [hvc_] at ul203_3; have HL203_3 := Aside0.mk (show Kd.V k83 83 _ w.heap.size _ _ ((rd_T40 l2 x9_1).f3) from Kd.V_mk ul203_3 ge203_3); clear hva_ hvn_ hvc_ ge203_3 ul203_3; have hv203_4 := hcc203 4 _ rfl; rw [add_field _ _ 4 (by omega)] at hv203_4; replace hv203_4 := Option.some.inj (hv203_4.symm.trans hx203_4); injection hv203_4 with hva_ hvn_ hvc_; rw [hva_] at ge203_4; rw [hvc_] at ul203_4; have HL203_4 := Aside0.mk (show Kd.V k86 86 _ w.heap.size _ _ ((rd_T40 l2 x9_1).f4) from Kd.V_mk ul203_4 ge203_4); clear hva_ hvn_ hvc_ ge203_4 ul203_4; clear hcc203 hce203; have HR203_3 := Aside0.mk hi203_3; have HC203_3 := Aside0.mk hl203_3; clear hi203_3 hl203_3; have HR203_4 := Aside0.mk hi203_4; have HC203_4 := Aside0.mk hl203_4; clear hi203_4 hl203_4; replace p203 := eq_true p203; replace q203 := eq_true q203; have ea_ := Option.some.inj (hx201_3.symm.trans hx203_3); injection ea_ with ea_ en_ ec_; subst ea_; subst ec_; clear en_; have ea_ := Option.some.inj (hx201_4.symm.trans hx203_4); injection ea_ with ea_ en_ ec_; subst ea_; subst ec_; clear en_) | (go_at_call 21; (with_reducible refine (chancelref06_Place.calls k1 _ _ l2 ((rd_T40 l2 x9_1).f0) t204 _ ?side1 ?side2 A9.out).mono ?_); (case side1 => repeat (first | exact (Kd.V_reads' HO_2.out).2.2 | (with_reducible refine Kd.C_alloc ?_ _) | (with_reducible refine Kd.C_drewN ?_ _) | (with_reducible refine Kd.C_drew ?_))); (case side2 => exact (Kd.V_reads' HO_2.out).2.1); rintro e w' ⟨rfl, ⟨nd, rfl⟩⟩))
              go_roundg k1
              case measure => have := HK1.out; omega
              case rel => exact ⟨(wrap64 (x9_1 + 1)), (by first | rfl | (simp; done) | (simp [*]; done)), H', ⟨by have := HK1.out; omega⟩, ⟨by (with_reducible repeat (first | apply Kd.V_alloc | apply Kd.V_drewN | apply Kd.V_drew)); exact HO_0.out⟩, ⟨by (with_reducible repeat (first | apply Kd.V_alloc | apply Kd.V_drewN | apply Kd.V_drew)); exact HO_2.out⟩, ⟨by repeat (first | (with_reducible first | exact HB.out | apply below_alloc | apply pw_below_drewN | apply below_drew1) | exact HB.out)⟩⟩
            · rw [if_neg c10] at H
              have c10b0 : (t204 == x9_1) = false := beq_eq_false_iff_ne.mpr c10
              have c10b1 : (t204 != x9_1) = true := bne_iff_ne.mpr c10
              simp only [Option.some.injEq, Prod.mk.injEq] at H
              obtain ⟨rfl, rfl⟩ := H
              have p201 : 0 ≤ (x9_1 : Int) := of_decide_eq_true (by first | (with_reducible assumption) | assumption)
              have q201 : x9_1 < (l2.length : Int) := of_decide_eq_true (by first | (with_reducible assumption) | assumption)
              obtain ⟨ad201, A201_3, c201_3, A201_4, c201_4, e201, hx201_0, hx201_1, hx201_2, hx201_3, hx201_4, hl201_3, hi201_3, hl201_4, hi201_4⟩ := at_T40 (Kd.V_reads' HO_2.out).2.2 x9_1 p201 q201
              cases e201
              obtain ⟨ce201, hce201, hMe201, hcc201⟩ := Kd.V_get HO_2.out z40 x9_1 p201 (by first | exact q201 | exact of_decide_eq_true (by first | (with_reducible assumption) | assumption) | (have e_ := (Kd.V_reads' HO_2.out).1; omega))
              obtain ⟨ua201_3, uc201_3, ua201_4, uc201_4, rfl, ul201_3, ge201_3, ul201_4, ge201_4⟩ := k40_openF hMe201
              have hv201_3 := hcc201 3 _ rfl
              rw [add_field _ _ 3 (by omega)] at hv201_3
              replace hv201_3 := Option.some.inj (hv201_3.symm.trans hx201_3)
              injection hv201_3 with hva_ hvn_ hvc_
              rw [hva_] at ge201_3
              rw [hvc_] at ul201_3
              have HL201_3 := Aside0.mk (show Kd.V k83 83 _ w.heap.size _ _ ((rd_T40 l2 x9_1).f3) from Kd.V_mk ul201_3 ge201_3)
              clear hva_ hvn_ hvc_ ge201_3 ul201_3
              have hv201_4 := hcc201 4 _ rfl
              rw [add_field _ _ 4 (by omega)] at hv201_4
              replace hv201_4 := Option.some.inj (hv201_4.symm.trans hx201_4)
              injection hv201_4 with hva_ hvn_ hvc_
              rw [hva_] at ge201_4
              rw [hvc_] at ul201_4
              have HL201_4 := Aside0.mk (show Kd.V k86 86 _ w.heap.size _ _ ((rd_T40 l2 x9_1).f4) from Kd.V_mk ul201_4 ge201_4)
              clear hva_ hvn_ hvc_ ge201_4 ul201_4
              clear hcc201 hce201
              have HR201_3 := Aside0.mk hi201_3
              have HC201_3 := Aside0.mk hl201_3
              clear hi201_3 hl201_3
              have HR201_4 := Aside0.mk hi201_4
              have HC201_4 := Aside0.mk hl201_4
              clear hi201_4 hl201_4
              replace p201 := eq_true p201
              replace q201 := eq_true q201
              go_wp2_with (first | ((with_reducible refine gate_callee (f := 21) rfl ?_); refine goesL_ (some 26) rfl rfl Tryd.func21 (by kernel_rfl) rfl #[.slice A0 l0.length c0, .int .i64 ((rd_T40 l2 x9_1).f0)] rfl (by (try simp only [List.map_toArray, List.map_cons, List.map_nil]); first | done | rfl | (simp only [List.length_drop, List.length_take]; rfl)) ?_; (with_reducible refine (chancelref06_Place.calls k1 _ _ l0 ((rd_T40 l2 x9_1).f0) t202 _ ?side1 ?side2 A7.out).mono ?_); (case side1 => repeat (first | exact (Kd.V_reads' HO_0.out).2.2 | (with_reducible refine Kd.C_alloc ?_ _) | (with_reducible refine Kd.C_drewN ?_ _) | (with_reducible refine Kd.C_drew ?_))); (case side2 => exact (Kd.V_reads' HO_0.out).2.1); rintro e w' ⟨rfl, ⟨nd, rfl⟩⟩; refine ⟨_, rfl, ?_⟩; have p203 : 0 ≤ (x9_1 : Int) := of_decide_eq_true (by first | (with_reducible assumption) | assumption); have q203 : x9_1 < (l2.length : Int) := of_decide_eq_true (by first | (with_reducible assumption) | assumption); obtain ⟨ad203, A203_3, c203_3, A203_4, c203_4, e203, hx203_0, hx203_1, hx203_2, hx203_3, hx203_4, hl203_3, hi203_3, hl203_4, hi203_4⟩ := at_T40 (Kd.V_reads' HO_2.out).2.2 x9_1 p203 q203; obtain rfl : ad201 = ad203 := (by injection e203); obtain ⟨ce203, hce203, hMe203, hcc203⟩ := Kd.V_get HO_2.out z40 x9_1 p203 (by first | exact q203 | exact of_decide_eq_true (by first | (with_reducible assumption) | assumption) | (have e_ := (Kd.V_reads' HO_2.out).1; omega)); obtain ⟨ua203_3, uc203_3, ua203_4, uc203_4, rfl, ul203_3, ge203_3, ul203_4, ge203_4⟩ := k40_openF hMe203; have hv203_3 := hcc203 3 _ rfl; rw [add_field _ _ 3 (by omega)] at hv203_3; replace hv203_3 := Option.some.inj (hv203_3.symm.trans hx203_3); injection hv203_3 with hva_ hvn_ hvc_; rw [hva_] at ge203_3; rw [hvc_] at ul203_3; have HL203_3 := Aside0.mk (show Kd.V k83 83 _ w.heap.size _ _ ((rd_T40 l2 x9_1).f3) from Kd.V_mk ul203_3 ge203_3); clear hva_ hvn_ hvc_ ge203_3 ul203_3; have hv203_4 := hcc203 4 _ rfl; rw [add_field _ _ 4 (by omega)] at hv203_4; replace hv203_4 := Option.some.inj (hv203_4.symm.trans hx203_4); injection hv203_4 with hva_ hvn_ hvc_; rw [hva_] at ge203_4; rw [hvc_] at ul203_4; have HL203_4 := Aside0.mk (show Kd.V k86 86 _ w.heap.size _ _ ((rd_T40 l2 x9_1).f4) from Kd.V_mk ul203_4 ge203_4); clear hva_ hvn_ hvc_ ge203_4 ul203_4; clear hcc203 hce203; have HR203_3 := Aside0.mk hi203_3; have HC203_3 := Aside0.mk hl203_3; clear hi203_3 hl203_3; have HR203_4 := Aside0.mk hi203_4; have HC203_4 := Aside0.mk hl203_4; clear hi203_4 hl203_4; replace p203 := eq_true p203; replace q203 := eq_true q203; have ea_ := Option.some.inj (hx201_3.symm.trans hx203_3); injection ea_ with ea_ en_ ec_; subst ea_; subst ec_; clear en_; have ea_ := Option.some.inj (hx201_4.symm.trans hx203_4); injection ea_ with ea_ en_ ec_; subst ea_; subst ec_; clear en_) | (go_at_call 21; (with_reducible refine (chancelref06_Place.calls k1 _ _ l2 ((rd_T40 l2 x9_1).f0) t204 _ ?side1 ?side2 A9.out).mono ?_); (case side1 => repeat (first | exact (Kd.V_reads' HO_2.out).2.2 | (with_reducible refine Kd.C_alloc ?_ _) | (with_reducible refine Kd.C_drewN ?_ _) | (with_reducible refine Kd.C_drew ?_))); (case side2 => exact (Kd.V_reads' HO_2.out).2.1); rintro e w' ⟨rfl, ⟨nd, rfl⟩⟩))
              go_ret2
              exact ⟨_, by first | rfl | (simp [errW_none, errW_some] <;> rfl) | (simp [*, errW_none, errW_some] <;> rfl), by (with_reducible repeat (first | apply Kd.V_alloc | apply Kd.V_drewN | apply Kd.V_drew)); exact HO_0.out, by repeat (first | (with_reducible first | exact HB.out | apply below_alloc | apply pw_below_drewN | apply below_drew1) | exact HB.out)⟩
        · rw [if_neg c6] at H
          exact absurd H (by simp)
      · rw [if_neg c5] at H
        have c5b0 : decide (x9_1 < (l2.length : Int)) = false := decide_eq_false c5
        clear c5
        by_cases c11 : t181 < 0
        · rw [if_pos c11] at H
          have c11b0 : decide (t181 < 0) = true := decide_eq_true c11
          clear c11
          simp only [Option.some.injEq, Prod.mk.injEq] at H
          obtain ⟨rfl, rfl⟩ := H
          go_wp2
          go_ret2
          exact ⟨_, by first | rfl | (simp [errW_none, errW_some] <;> rfl) | (simp [*, errW_none, errW_some] <;> rfl), by (with_reducible repeat (first | apply Kd.V_alloc | apply Kd.V_drewN | apply Kd.V_drew)); exact HO_0.out, by repeat (first | (with_reducible first | exact HB.out | apply below_alloc | apply pw_below_drewN | apply below_drew1) | exact HB.out)⟩
        · rw [if_neg c11] at H
          have c11b0 : decide (t181 < 0) = false := decide_eq_false c11
          clear c11
          obtain ⟨ji12, hji12⟩ : ∃ j_ : Int, (wrap64 (t181 + 1)) = j_ := ⟨_, rfl⟩
          replace H : (if 0 ≤ (ji12) then (if (ji12) ≤ (l0.length : Int) then ((some (l0.take ((ji12) : Int).toNat : List (S40))).bind fun y182 => (if ([] : List (S40)).length + y182.length < 1759218604441 then ((some (([] : List (S40)) ++ y182 : List (S40))).bind fun y187 => (if y187.length + l2.length < 1759218604441 then ((some (y187 ++ l2 : List (S40))).bind fun y190 => ((some (l0.drop ((ji12) : Int).toNat : List (S40))).bind fun y193 => (if y190.length + y193.length < 1759218604441 then (some ((y190 ++ y193), true)) else (none)))) else (none))) else (none))) else (none)) else (none)) = some (r1, r2) := by first | (rw [hji12] at H; exact H) | (simp only [hji12] at H ⊢; exact H)
          have hji12w : (IntKind.i64.wrap (t181 + 1)) = ji12 := (i64_w _).trans hji12
          by_cases c13 : 0 ≤ (ji12)
          · rw [if_pos c13] at H
            have c13b0 := eq_true c13
            have c13b1 : decide (0 ≤ (ji12)) = true := decide_eq_true c13
            clear c13
            by_cases c14 : (ji12) ≤ (l0.length : Int)
            · rw [if_pos c14] at H
              have c14b0 := eq_true c14
              have c14b1 : decide ((ji12) ≤ (l0.length : Int)) = true := decide_eq_true c14
              clear c14
              obtain ⟨y182, hy182⟩ : ∃ y_ : List (S40), y_ = (l0.take ((ji12) : Int).toNat) := ⟨_, rfl⟩
              replace H : (if ([] : List (S40)).length + y182.length < 1759218604441 then ((some (([] : List (S40)) ++ y182 : List (S40))).bind fun y187 => (if y187.length + l2.length < 1759218604441 then ((some (y187 ++ l2 : List (S40))).bind fun y190 => ((some (l0.drop ((ji12) : Int).toNat : List (S40))).bind fun y193 => (if y190.length + y193.length < 1759218604441 then (some ((y190 ++ y193), true)) else (none)))) else (none))) else (none)) = some (r1, r2) := by first | (rw [hy182]; with_reducible exact H) | (have H2_ := (Option.bind_some _ _).symm.trans H; rw [hy182]; with_reducible exact H2_) | (have H2_ := (Option.bind_some _ _).symm.trans H; with_reducible exact H2_) | with_reducible exact H | (rw [hy182]; exact H) | exact H
              have Ny182 := Aside0.mk hy182
              clear hy182
              by_cases c15 : ([] : List (S40)).length + y182.length < 1759218604441
              · rw [if_pos c15] at H
                have LMc15 := Aside0.mk c15
                clear c15
                obtain ⟨y187, hy187⟩ : ∃ y_ : List (S40), y_ = (([] : List (S40)) ++ y182) := ⟨_, rfl⟩
                replace H : (if y187.length + l2.length < 1759218604441 then ((some (y187 ++ l2 : List (S40))).bind fun y190 => ((some (l0.drop ((ji12) : Int).toNat : List (S40))).bind fun y193 => (if y190.length + y193.length < 1759218604441 then (some ((y190 ++ y193), true)) else (none)))) else (none)) = some (r1, r2) := by first | (rw [hy187]; with_reducible exact H) | (have H2_ := (Option.bind_some _ _).symm.trans H; rw [hy187]; with_reducible exact H2_) | (have H2_ := (Option.bind_some _ _).symm.trans H; with_reducible exact H2_) | with_reducible exact H | (rw [hy187]; exact H) | exact H
                have Ny187 := Aside0.mk hy187
                clear hy187
                by_cases c16 : y187.length + l2.length < 1759218604441
                · rw [if_pos c16] at H
                  have LMc16 := Aside0.mk c16
                  clear c16
                  obtain ⟨y190, hy190⟩ : ∃ y_ : List (S40), y_ = (y187 ++ l2) := ⟨_, rfl⟩
                  replace H : ((some (l0.drop ((ji12) : Int).toNat : List (S40))).bind fun y193 => (if y190.length + y193.length < 1759218604441 then (some ((y190 ++ y193), true)) else (none))) = some (r1, r2) := by first | (rw [hy190]; with_reducible exact H) | (have H2_ := (Option.bind_some _ _).symm.trans H; rw [hy190]; with_reducible exact H2_) | (have H2_ := (Option.bind_some _ _).symm.trans H; with_reducible exact H2_) | with_reducible exact H | (rw [hy190]; exact H) | exact H
                  have Ny190 := Aside0.mk hy190
                  clear hy190
                  have c17b0 := eq_true (of_decide_eq_true (by first | (with_reducible assumption) | assumption) : 0 ≤ (ji12))
                  have c18b0 := eq_true (of_decide_eq_true (by first | (with_reducible assumption) | assumption) : (ji12) ≤ (l0.length : Int))
                  obtain ⟨y193, hy193⟩ : ∃ y_ : List (S40), y_ = (l0.drop ((ji12) : Int).toNat) := ⟨_, rfl⟩
                  replace H : (if y190.length + y193.length < 1759218604441 then (some ((y190 ++ y193), true)) else (none)) = some (r1, r2) := by first | (rw [hy193]; with_reducible exact H) | (have H2_ := (Option.bind_some _ _).symm.trans H; rw [hy193]; with_reducible exact H2_) | (have H2_ := (Option.bind_some _ _).symm.trans H; with_reducible exact H2_) | with_reducible exact H | (rw [hy193]; exact H) | exact H
                  have Ny193 := Aside0.mk hy193
                  clear hy193
                  by_cases c19 : y190.length + y193.length < 1759218604441
                  · rw [if_pos c19] at H
                    have LMc19 := Aside0.mk c19
                    clear c19
                    obtain ⟨y198, hy198⟩ : ∃ y_ : List (S40), y_ = (y190 ++ y193) := ⟨_, rfl⟩
                    replace H : (some (y198, true)) = some (r1, r2) := by first | (rw [hy198]; with_reducible exact H) | (have H2_ := (Option.bind_some _ _).symm.trans H; rw [hy198]; with_reducible exact H2_) | (have H2_ := (Option.bind_some _ _).symm.trans H; with_reducible exact H2_) | with_reducible exact H | (rw [hy198]; exact H) | exact H
                    have Ny198 := Aside0.mk hy198
                    clear hy198
                    simp only [Option.some.injEq, Prod.mk.injEq] at H
                    obtain ⟨rfl, rfl⟩ := H
                    have q20 : ((ji12) : Int) ≤ ((l0.length : Int) : Int) := of_decide_eq_true (by first | (with_reducible assumption) | assumption)
                    obtain ⟨i020, hi020, _, hsz20, _⟩ := info_parts info40
                    have hroom20 : l0.length ≤ c0 := (Kd.V_reads' HO_0.out).2.1
                    have hC20 : Kd.F k40 _ _ A0 l0.length l0 := (Kd.V_at (base := w.heap.size) HO_0.out).2.2
                    have hcut20 := cut_to (P := Tryd.prog) 22 40 .i64 Tryd.underlying22 hi020 A0 l0.length c0 (ji12) (of_decide_eq_true (by first | (with_reducible assumption) | assumption)) q20 hroom20
                    have hr20 := Kd.F_take (m := ((ji12) : Int).toNat) hC20 (by omega)
                    have hy20 : y182.length = ((ji12) : Int).toNat := (by rw [Ny182.out, List.length_take]; omega)
                    rw [← Ny182.out] at hr20
                    rw [← hy20] at hcut20
                    have HO186 := Aside0.mk (show Kd.V k40 40 _ w.heap.size _ (.slice A0 y182.length c0) y182 from Kd.V_mk (by omega) hr20)
                    have HC186 := Aside0.mk (show y182.length ≤ c0 from by omega)
                    clear hr20 hC20 hroom20 hi020 hsz20
                    have KY20 := Aside0.mk hy20
                    clear hy20
                    replace q20 := eq_true q20
                    go_wp2_with (first | ((with_reducible refine gate_builtin (b := .append) (xs := #[.tmp 43, .tmp 47]) rfl ?_); at_builtin; refine Kd.N_append_rows k40 (w0 := w) w.heap.size rfl (.tmp 43) (.tmp 47) 22 40 (.agg #[(.int .i64 0), (.int .i64 0), (.string ⟨#[]⟩), (.slice none 0 0), (.slice none 0 0)]) 80 rfl Tryd.underlying22 info40 rfl (by decide) (by omega) (.slice none 0 0) ([] : List (S40)) y182 _ _ _ (fun k_ => ((P0_ k_ ∨ P2_ k_) ∨ w.heap.size ≤ k_)) (fun k_ => ((fun k_ => ((P0_ k_ ∨ P2_ k_) ∨ w.heap.size ≤ k_))) k_ ∧ some k_ ≠ (.slice none 0 0 : Value).ownBlock) rfl rfl ?aO ?aR (fun _ hk => hk) ?aF ?aB ?aS ?aL ?_; (case aR => exact (by skip; exact Kd.V_F (Kd.V_mono (ok' := (fun k_ => ((fun k_ => ((P0_ k_ ∨ P2_ k_) ∨ w.heap.size ≤ k_))) k_ ∧ some k_ ≠ (.slice none 0 0 : Value).ownBlock)) (HO186.out) (fun k_ hk => ⟨hk, (by simp [Value.ownBlock])⟩)))); (case aB => exact (by repeat (first | (with_reducible first | exact HB.out | apply below_alloc | apply pw_below_drewN | apply below_drew1) | exact HB.out))); (case aF => exact (fun k_ hk => (.inr (Nat.le_trans (below_size (by repeat (first | (with_reducible first | exact HB.out | apply below_alloc | apply pw_below_drewN | apply below_drew1) | exact HB.out))) hk)))); (case aO => exact ((Kd.N_nil _ _ _ _ (fun k_ => ((P0_ k_ ∨ P2_ k_) ∨ w.heap.size ≤ k_))))); (case aS => exact (below_size (by repeat (first | (with_reducible first | exact HB.out | apply below_alloc | apply pw_below_drewN | apply below_drew1) | exact HB.out)))); (case aL => have := LMc15.out; omega); intro v188 w21 ho hb hg hat; rw [← Ny187.out] at ho; have n0_ := Aside0.mk (Kd.V_afterv (Kd.V_apart_nil (by (with_reducible repeat (first | apply Kd.V_alloc | apply Kd.V_drewN | apply Kd.V_drew)); exact HO_0.out)) hg hat); have n1_ := Aside0.mk (Kd.V_afterv (Kd.V_apart_nil (by (with_reducible repeat (first | apply Kd.V_alloc | apply Kd.V_drewN | apply Kd.V_drew)); exact HO_2.out)) hg hat); have n2_ := Aside0.mk (Kd.V_afterv (Kd.V_apart_nil (by (with_reducible repeat (first | apply Kd.V_alloc | apply Kd.V_drewN | apply Kd.V_drew)); exact HO186.out)) hg hat); have n3_ := Aside0.mk (hb); have n4_ := Aside0.mk (ho); clear HO_0; clear HO_2; clear HO186; clear HB; have HO_0 := n0_; have HO_2 := n1_; have HO186 := n2_; have HB := n3_; have HO189 := n4_; clear n0_ n1_ n2_ n3_ n4_; clear ho hb hg hat) | ((with_reducible refine gate_builtin (b := .append) (xs := #[.tmp 49, .tmp 50]) rfl ?_); at_builtin; refine Kd.N_append_rows k40 (w0 := w) w.heap.size rfl (.tmp 49) (.tmp 50) 22 40 (.agg #[(.int .i64 0), (.int .i64 0), (.string ⟨#[]⟩), (.slice none 0 0), (.slice none 0 0)]) 80 rfl Tryd.underlying22 info40 rfl (by decide) (by omega) v188 y187 l2 _ _ _ (fun k_ => ((P0_ k_ ∨ P2_ k_) ∨ w.heap.size ≤ k_)) (fun k_ => ((fun k_ => ((P0_ k_ ∨ P2_ k_) ∨ w.heap.size ≤ k_))) k_ ∧ some k_ ≠ (v188 : Value).ownBlock) rfl rfl ?aO ?aR (fun _ hk => hk) ?aF ?aB ?aS ?aL ?_; (case aR => exact (by skip; exact Kd.V_F (Kd.V_mono (ok' := (fun k_ => ((fun k_ => ((P0_ k_ ∨ P2_ k_) ∨ w.heap.size ≤ k_))) k_ ∧ some k_ ≠ (v188 : Value).ownBlock)) (HO_2.out) (fun k_ hk => ⟨hk.1, hk.2⟩)))); (case aB => exact (by repeat (first | (with_reducible first | exact HB.out | apply below_alloc | apply pw_below_drewN | apply below_drew1) | exact HB.out))); (case aF => exact (fun k_ hk => (.inr (Nat.le_trans (below_size (by repeat (first | (with_reducible first | exact HB.out | apply below_alloc | apply pw_below_drewN | apply below_drew1) | exact HB.out))) hk)))); (case aO => exact (by (with_reducible repeat (first | apply Kd.N_alloc | apply Kd.N_drewN | apply Kd.N_drew)); exact HO189.out)); (case aS => exact (below_size (by repeat (first | (with_reducible first | exact HB.out | apply below_alloc | apply pw_below_drewN | apply below_drew1) | exact HB.out)))); (case aL => have := LMc16.out; omega); intro v191 w22 ho hb hg hat; rw [← Ny190.out] at ho; have n0_ := Aside0.mk (Kd.V_afterv (ok := (fun k_ => ((P0_ k_ ∨ P2_ k_) ∨ w.heap.size ≤ k_))) (by (with_reducible repeat (first | apply Kd.V_alloc | apply Kd.V_drewN | apply Kd.V_drew)); exact HO_0.out) hg hat); have n1_ := Aside0.mk (Kd.V_afterv (ok := (fun k_ => ((P0_ k_ ∨ P2_ k_) ∨ w.heap.size ≤ k_))) (by (with_reducible repeat (first | apply Kd.V_alloc | apply Kd.V_drewN | apply Kd.V_drew)); exact HO_2.out) hg hat); have n2_ := Aside0.mk (Kd.V_afterv (ok := (fun k_ => ((P0_ k_ ∨ P2_ k_) ∨ w.heap.size ≤ k_))) (by (with_reducible repeat (first | apply Kd.V_alloc | apply Kd.V_drewN | apply Kd.V_drew)); exact HO186.out) hg hat); have n3_ := Aside0.mk (hb); have n4_ := Aside0.mk (ho); clear HO_0; clear HO_2; clear HO186; clear HB; clear HO189; have HO_0 := n0_; have HO_2 := n1_; have HO186 := n2_; have HB := n3_; have HO192 := n4_; clear n0_ n1_ n2_ n3_ n4_; clear ho hb hg hat; have q23 : ((ji12) : Int) ≤ ((l0.length : Int) : Int) := of_decide_eq_true (by first | (with_reducible assumption) | assumption); obtain ⟨i023, hi023, _, hsz23, _⟩ := info_parts info40; have hroom23 : l0.length ≤ c0 := (Kd.V_reads' HO_0.out).2.1; have hC23 : Kd.F k40 _ _ A0 l0.length l0 := (Kd.V_at (base := w.heap.size) HO_0.out).2.2; have q023 : (0 : Int) ≤ ((ji12) : Int) := of_decide_eq_true (by first | (with_reducible assumption) | assumption); have hcut23 := cut_from (P := Tryd.prog) 22 40 .i64 Tryd.underlying22 hi023 5 hsz23 A0 l0.length c0 (ji12) q023 q23; have hr23 := Kd.F_cut (m := ((ji12) : Int).toNat) (c := c0) hC23 (by omega) hroom23; obtain ⟨A23, hA23⟩ : ∃ A1, A1 = (if c0 = ((ji12) : Int).toNat then A0 else (A0 : Option Addr).map (·.add (((ji12) : Int).toNat * 5))) := ⟨_, rfl⟩; obtain ⟨c23, hc23⟩ : ∃ c1, c1 = c0 - ((ji12) : Int).toNat := ⟨_, rfl⟩; have hy23 : y193.length = l0.length - ((ji12) : Int).toNat := (by rw [Ny193.out, List.length_drop] <;> omega); rw [show (l0).drop ((ji12) : Int).toNat = y193 from Ny193.out.symm] at hr23; replace hr23 : Kd.F k40 _ _ A23 y193.length y193 := (by rw [hA23]; exact hr23); rw [← hy23, ← hA23, ← hc23] at hcut23; have HO197 := Aside0.mk (show Kd.V k40 40 _ w.heap.size _ (.slice A23 y193.length c23) y193 from Kd.V_mk (by rw [hy23, hc23]; exact Nat.sub_le_sub_right hroom23 _) hr23); have HC197 := Aside0.mk (show y193.length ≤ c23 from by rw [hy23, hc23]; exact Nat.sub_le_sub_right hroom23 _); clear hr23 hC23 hroom23 hi023 hsz23 hc23; have KY23 := Aside0.mk hy23; have KA23 := Aside0.mk hA23; clear hy23 hA23; replace q23 := eq_true q23) | ((with_reducible refine gate_builtin (b := .append) (xs := #[.tmp 52, .tmp 56]) rfl ?_); at_builtin; refine Kd.N_append_rows k40 (w0 := w) w.heap.size rfl (.tmp 52) (.tmp 56) 22 40 (.agg #[(.int .i64 0), (.int .i64 0), (.string ⟨#[]⟩), (.slice none 0 0), (.slice none 0 0)]) 80 rfl Tryd.underlying22 info40 rfl (by decide) (by omega) v191 y190 y193 _ _ _ (fun k_ => ((P0_ k_ ∨ P2_ k_) ∨ w.heap.size ≤ k_)) (fun k_ => ((fun k_ => ((P0_ k_ ∨ P2_ k_) ∨ w.heap.size ≤ k_))) k_ ∧ some k_ ≠ (v191 : Value).ownBlock) rfl rfl ?aO ?aR (fun _ hk => hk) ?aF ?aB ?aS ?aL ?_; (case aR => exact (by skip; exact Kd.V_F (Kd.V_mono (ok' := (fun k_ => ((fun k_ => ((P0_ k_ ∨ P2_ k_) ∨ w.heap.size ≤ k_))) k_ ∧ some k_ ≠ (v191 : Value).ownBlock)) (HO197.out) (fun k_ hk => ⟨hk.1, hk.2⟩)))); (case aB => exact (by repeat (first | (with_reducible first | exact HB.out | apply below_alloc | apply pw_below_drewN | apply below_drew1) | exact HB.out))); (case aF => exact (fun k_ hk => (.inr (Nat.le_trans (below_size (by repeat (first | (with_reducible first | exact HB.out | apply below_alloc | apply pw_below_drewN | apply below_drew1) | exact HB.out))) hk)))); (case aO => exact (by (with_reducible repeat (first | apply Kd.N_alloc | apply Kd.N_drewN | apply Kd.N_drew)); exact HO192.out)); (case aS => exact (below_size (by repeat (first | (with_reducible first | exact HB.out | apply below_alloc | apply pw_below_drewN | apply below_drew1) | exact HB.out)))); (case aL => have := LMc19.out; omega); intro v199 w24 ho hb hg hat; rw [← Ny198.out] at ho; have n0_ := Aside0.mk (Kd.V_afterv (ok := (fun k_ => ((P0_ k_ ∨ P2_ k_) ∨ w.heap.size ≤ k_))) (by (with_reducible repeat (first | apply Kd.V_alloc | apply Kd.V_drewN | apply Kd.V_drew)); exact HO_0.out) hg hat); have n1_ := Aside0.mk (Kd.V_afterv (ok := (fun k_ => ((P0_ k_ ∨ P2_ k_) ∨ w.heap.size ≤ k_))) (by (with_reducible repeat (first | apply Kd.V_alloc | apply Kd.V_drewN | apply Kd.V_drew)); exact HO_2.out) hg hat); have n2_ := Aside0.mk (Kd.V_afterv (ok := (fun k_ => ((P0_ k_ ∨ P2_ k_) ∨ w.heap.size ≤ k_))) (by (with_reducible repeat (first | apply Kd.V_alloc | apply Kd.V_drewN | apply Kd.V_drew)); exact HO186.out) hg hat); have n3_ := Aside0.mk (Kd.V_afterv (ok := (fun k_ => ((P0_ k_ ∨ P2_ k_) ∨ w.heap.size ≤ k_))) (by (with_reducible repeat (first | apply Kd.V_alloc | apply Kd.V_drewN | apply Kd.V_drew)); exact HO197.out) hg hat); have n4_ := Aside0.mk (hb); have n5_ := Aside0.mk (ho); clear HO_0; clear HO_2; clear HO186; clear HO197; clear HB; clear HO192; have HO_0 := n0_; have HO_2 := n1_; have HO186 := n2_; have HO197 := n3_; have HB := n4_; have HO200 := n5_; clear n0_ n1_ n2_ n3_ n4_ n5_; clear ho hb hg hat))
                    go_ret2
                    exact ⟨_, by first | rfl | (simp [errW_none, errW_some] <;> rfl) | (simp only [← hji12]; first | rfl | (simp [errW_none, errW_some] <;> rfl)) | (simp [*, errW_none, errW_some] <;> rfl), Kd.N_V (by (with_reducible repeat (first | apply Kd.N_alloc | apply Kd.N_drewN | apply Kd.N_drew)); exact HO200.out), by repeat (first | (with_reducible first | exact HB.out | apply below_alloc | apply pw_below_drewN | apply below_drew1) | exact HB.out)⟩
                  · rw [if_neg c19] at H
                    exact absurd H (by simp)
                · rw [if_neg c16] at H
                  exact absurd H (by simp)
              · rw [if_neg c15] at H
                exact absurd H (by simp)
            · rw [if_neg c14] at H
              exact absurd H (by simp)
          · rw [if_neg c13] at H
            exact absurd H (by simp)

-- NOT PRINTED: function 5 (chancellaw06_SheetAfter)

end Go.Proofs.YtkkjebjlgcggcaaDoor.PSheetAfter
