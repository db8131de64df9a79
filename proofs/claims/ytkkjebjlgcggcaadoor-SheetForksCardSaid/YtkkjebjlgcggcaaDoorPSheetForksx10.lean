-- PRINTED BY print.sh 35421559b90ae4d0a3588c463048766b98c2df88dd9212a6774a882060cdf62d: not written by this session
import Derived.Test.YtkkjebjlgcggcaaDoorPSheetForksx0
import Derived.Test.YtkkjebjlgcggcaaDoorPSheetForksx9
namespace Go.Proofs.YtkkjebjlgcggcaaDoor.PSheetForks
open Go.RowKit Go.Proofs.YtkkjebjlgcggcaaDoorW.PrintWords Go.Proofs.YtkkjebjlgcggcaaDoorW.PrintLast Go.Proofs.YtkkjebjlgcggcaaDoorW.PrintMore
attribute [local go_sem] max2_int min2_int max_two min_two max_three min_three max_four min_four   -- for this text's walks alone
set_option linter.unusedVariables false
set_option linter.unusedSimpArgs false

/-! ### chancelref06_Same: function 15 -/
def chancelref06_Same.l0 : Nat → List (S40) → List (S40) → Int → Option (Bool)
  | 0, _, _, _ => none
  | k + 1, x0, x1, x5 => if x5 < (x0.length : Int) then (if 0 ≤ x5 then (if x5 < (x1.length : Int) then ((chancelref05_Same.f k ((rd_T40 x0 x5).f0) ((rd_T40 x0 x5).f1) ((rd_T40 x0 x5).f2) ((rd_T40 x0 x5).f3) ((rd_T40 x0 x5).f4) ((rd_T40 x1 x5).f0) ((rd_T40 x1 x5).f1) ((rd_T40 x1 x5).f2) ((rd_T40 x1 x5).f3) ((rd_T40 x1 x5).f4)).bind fun t179 => (if t179 = true then (chancelref06_Same.l0 k x0 x1 (wrap64 (x5 + 1))) else (some false))) else (none)) else (none)) else (some true)
def chancelref06_Same.f (k : Nat) (l0 : List (S40)) (l1 : List (S40)) : Option (Bool) := if (l0.length : Int) = (l1.length : Int) then (chancelref06_Same.l0 k l0 l1 0) else (some false)
theorem chancelref06_Same.mono_l : ∀ k, (∀ y0 y1 y2, LeO (chancelref06_Same.l0 k y0 y1 y2) (chancelref06_Same.l0 (k + 1) y0 y1 y2))
  | 0 => fun _ _ _ r h => by simp [chancelref06_Same.l0] at h
  | k + 1 => by
    have ih0 := chancelref06_Same.mono_l k
    · intro y0 y1 y2
      unfold chancelref06_Same.l0
      repeat' first
      | (with_reducible exact ih0 _ _ _)
      | (with_reducible exact chancelref05_Same.mono _ _ _ _ _ _ _ _ _ _ _)
      | (with_reducible exact LeO.refl _)
      | (with_reducible exact LeO.none _)
      | (with_reducible refine LeO.ite ?_ ?_)
      | (with_reducible refine LeO.bind ?_ (fun _ => ?_))
      | exact ih0 _ _ _
      | exact chancelref05_Same.mono _ _ _ _ _ _ _ _ _ _ _
      | exact LeO.none _
      | refine LeO.ite ?_ ?_
      | refine LeO.bind ?_ (fun _ => ?_)
theorem chancelref06_Same.mono : ∀ a0 a1 k, LeO (chancelref06_Same.f k a0 a1) (chancelref06_Same.f (k + 1) a0 a1) := by
  intro a0 a1 k
  have ih0 := chancelref06_Same.mono_l k
  unfold chancelref06_Same.f
  repeat' first
      | (with_reducible exact ih0 _ _ _)
      | (with_reducible exact chancelref05_Same.mono _ _ _ _ _ _ _ _ _ _ _)
      | (with_reducible exact LeO.refl _)
      | (with_reducible exact LeO.none _)
      | (with_reducible refine LeO.ite ?_ ?_)
      | (with_reducible refine LeO.bind ?_ (fun _ => ?_))
      | exact ih0 _ _ _
      | exact chancelref05_Same.mono _ _ _ _ _ _ _ _ _ _ _
      | exact LeO.none _
      | refine LeO.ite ?_ ?_
      | refine LeO.bind ?_ (fun _ => ?_)
def chancelref06_Same.T6 : Bool × List (List Nat × List Nat) := (true, [([], []), ([], []), ([0, 1], [0, 1]), ([2], [2]), ([], []), ([], []), ([4, 5], [4, 5]), ([6], [6]), ([3, 7], [3, 7]), ([8], [8])])
def chancelref06_Same.B6 : List Nat := [0, 0, 3, 7, 0, 0, 48, 112, 255, 511]
theorem chancelref06_Same.tab6 : rtab .any (opsOf Tryd.f15 6) = chancelref06_Same.T6 := by kernel_rfl
theorem chancelref06_Same.bits6 : waitsOk chancelref06_Same.T6.2 chancelref06_Same.B6 = true := by kernel_rfl
set_option maxHeartbeats 8000000 in
set_option maxRecDepth 100000 in
theorem chancelref06_Same.calls (k : Nat) (A0 : Option Addr) (c0 : Nat) (l0 : List (S40)) (A1 : Option Addr) (c1 : Nat) (l1 : List (S40)) (r : Bool) (w : World) (hr0 : Kd.C k40 w A0 l0.length l0) (hc0 : l0.length ≤ c0) (hr1 : Kd.C k40 w A1 l1.length l1) (hc1 : l1.length ≤ c1) (h : chancelref06_Same.f k l0 l1 = some r) :
    Calls Tryd.prog 15 #[.slice A0 l0.length c0, .slice A1 l1.length c1] w fun e w' => e = .returned (.bool r) ∧ Below w.heap.size w w' := by
  have hu40 := Tryd.underlying40
  have HR0 := Aside0.mk hr0
  have HC0 := Aside0.mk hc0
  clear hr0 hc0
  have HR1 := Aside0.mk hr1
  have HC1 := Aside0.mk hc1
  clear hr1 hc1
  have HB := Aside0.mk (Below.refl w.heap.size w)
  have H : (if (l0.length : Int) = (l1.length : Int) then (chancelref06_Same.l0 k l0 l1 0) else (some false)) = some r := h
  clear h
  by_cases c3 : (l0.length : Int) = (l1.length : Int)
  · rw [if_pos c3] at H
    have c3b0 : ((l0.length : Int) == (l1.length : Int)) = true := beq_iff_eq.mpr c3
    have c3b1 : ((l0.length : Int) != (l1.length : Int)) = false := bne_eq_false_iff_eq.mpr c3
    have c3b2 : (l0.length == l1.length) = true := by first | simpa using c3 | (simp at c3 ⊢; omega)
    clear c3
    have H' := Aside0.mk H
    clear H
    go_enter Tryd.func15, Tryd.ntmps15
    go_wp2
    go_loopg [5] k (fun kq v5 w' => ∃ (x5_1 : Int), v5 = .int .i64 x5_1 ∧ Aside0 (chancelref06_Same.l0 kq l0 l1 x5_1 = some r) ∧ Aside0 (kq ≤ k) ∧ Aside0 (Below w.heap.size w w'))
    case atStart => exact ⟨(0), (by first | rfl | (simp; done) | (simp [*]; done)), H', ⟨Nat.le_refl _⟩, ⟨by repeat (first | (with_reducible first | exact HB.out | apply below_alloc | apply pw_below_drewN | apply below_drew1) | exact HB.out)⟩⟩
    case round =>
      clear H'
      try clear c1
      try clear p2
      try clear c3
      try clear c3b0
      try clear c3b1
      try clear c3b2
      obtain ⟨x5_1, rfl, HA, HK1, HB⟩ := hrel
      cases gk with
      | zero => exact absurd HA.out (by simp [chancelref06_Same.l0])
      | succ k1 =>
        have H := HA.out
        clear HA
        simp only [chancelref06_Same.l0] at H
        by_cases c4 : x5_1 < (l0.length : Int)
        · rw [if_pos c4] at H
          have c4b0 : decide (x5_1 < (l0.length : Int)) = true := decide_eq_true c4
          clear c4
          by_cases c5 : 0 ≤ x5_1
          · rw [if_pos c5] at H
            have c5b0 : decide (0 ≤ x5_1) = true := decide_eq_true c5
            clear c5
            by_cases c6 : x5_1 < (l1.length : Int)
            · rw [if_pos c6] at H
              have c6b0 : decide (x5_1 < (l1.length : Int)) = true := decide_eq_true c6
              clear c6
              replace H := Option.bind_eq_some_iff.mp H
              obtain ⟨t179, A70, H⟩ := H
              replace H : (if t179 = true then (chancelref06_Same.l0 k1 l0 l1 (wrap64 (x5_1 + 1))) else (some false)) = some r := H
              have A7 := Aside0.mk A70
              clear A70
              by_cases c8 : t179 = true
              · subst c8
                have H1 : (chancelref06_Same.l0 k1 l0 l1 (wrap64 (x5_1 + 1))) = some r := by rw [if_pos rfl] at H; exact H
                clear H
                have H := H1
                clear H1
                have H' := Aside0.mk H
                clear H
                try go_wp2
                have n0_ := Aside0.mk (below_drew1 HB.out)
                clear HB
                have HB := n0_
                clear n0_
                have p177 : 0 ≤ (x5_1 : Int) := of_decide_eq_true (by first | (with_reducible assumption) | assumption)
                have q177 : x5_1 < (l0.length : Int) := of_decide_eq_true (by first | (with_reducible assumption) | assumption)
                obtain ⟨ad177, A177_3, c177_3, A177_4, c177_4, e177, hx177_0, hx177_1, hx177_2, hx177_3, hx177_4, hl177_3, hi177_3, hl177_4, hi177_4⟩ := at_T40 HR0.out x5_1 p177 q177
                have hw177_4 := hx177_4
                have hw177_3 := hx177_3
                have hw177_2 := hx177_2
                have hw177_1 := hx177_1
                have hw177_0 := hx177_0
                cases e177
                replace hx177_0 := (HB.out.cell (World.block_lt_of_cell? w _ hx177_0)).trans hx177_0
                replace hx177_1 := (HB.out.cell (World.block_lt_of_cell? w _ hx177_1)).trans hx177_1
                replace hx177_2 := (HB.out.cell (World.block_lt_of_cell? w _ hx177_2)).trans hx177_2
                replace hx177_3 := (HB.out.cell (World.block_lt_of_cell? w _ hx177_3)).trans hx177_3
                replace hx177_4 := (HB.out.cell (World.block_lt_of_cell? w _ hx177_4)).trans hx177_4
                have HR177_3 := Aside0.mk hi177_3
                have HC177_3 := Aside0.mk hl177_3
                clear hi177_3 hl177_3
                have HR177_4 := Aside0.mk hi177_4
                have HC177_4 := Aside0.mk hl177_4
                clear hi177_4 hl177_4
                replace p177 := eq_true p177
                replace q177 := eq_true q177
                have p178 : 0 ≤ (x5_1 : Int) := of_decide_eq_true (by first | (with_reducible assumption) | assumption)
                have q178 : x5_1 < (l1.length : Int) := of_decide_eq_true (by first | (with_reducible assumption) | assumption)
                obtain ⟨ad178, A178_3, c178_3, A178_4, c178_4, e178, hx178_0, hx178_1, hx178_2, hx178_3, hx178_4, hl178_3, hi178_3, hl178_4, hi178_4⟩ := at_T40 HR1.out x5_1 p178 q178
                have hw178_4 := hx178_4
                have hw178_3 := hx178_3
                have hw178_2 := hx178_2
                have hw178_1 := hx178_1
                have hw178_0 := hx178_0
                cases e178
                replace hx178_0 := (HB.out.cell (World.block_lt_of_cell? w _ hx178_0)).trans hx178_0
                replace hx178_1 := (HB.out.cell (World.block_lt_of_cell? w _ hx178_1)).trans hx178_1
                replace hx178_2 := (HB.out.cell (World.block_lt_of_cell? w _ hx178_2)).trans hx178_2
                replace hx178_3 := (HB.out.cell (World.block_lt_of_cell? w _ hx178_3)).trans hx178_3
                replace hx178_4 := (HB.out.cell (World.block_lt_of_cell? w _ hx178_4)).trans hx178_4
                have HR178_3 := Aside0.mk hi178_3
                have HC178_3 := Aside0.mk hl178_3
                clear hi178_3 hl178_3
                have HR178_4 := Aside0.mk hi178_4
                have HC178_4 := Aside0.mk hl178_4
                clear hi178_4 hl178_4
                replace p178 := eq_true p178
                replace q178 := eq_true q178
                refine start_ (n := 10) (S := fun w' => w'.cell? (ad177.add ((x5_1).toNat * 5)) = some (.int .i64 ((rd_T40 l0 x5_1).f0)) ∧ w'.cell? ⟨(ad177.add ((x5_1).toNat * 5)).block, (ad177.add ((x5_1).toNat * 5)).off + 1, none⟩ = some (.int .i64 ((rd_T40 l0 x5_1).f1)) ∧ w'.cell? ⟨(ad177.add ((x5_1).toNat * 5)).block, (ad177.add ((x5_1).toNat * 5)).off + 2, none⟩ = some (.string ((rd_T40 l0 x5_1).f2)) ∧ w'.cell? ⟨(ad177.add ((x5_1).toNat * 5)).block, (ad177.add ((x5_1).toNat * 5)).off + 3, none⟩ = some (.slice A177_3 ((rd_T40 l0 x5_1).f3).length c177_3) ∧ w'.cell? ⟨(ad177.add ((x5_1).toNat * 5)).block, (ad177.add ((x5_1).toNat * 5)).off + 4, none⟩ = some (.slice A177_4 ((rd_T40 l0 x5_1).f4).length c177_4) ∧ w'.cell? (ad178.add ((x5_1).toNat * 5)) = some (.int .i64 ((rd_T40 l1 x5_1).f0)) ∧ w'.cell? ⟨(ad178.add ((x5_1).toNat * 5)).block, (ad178.add ((x5_1).toNat * 5)).off + 1, none⟩ = some (.int .i64 ((rd_T40 l1 x5_1).f1)) ∧ w'.cell? ⟨(ad178.add ((x5_1).toNat * 5)).block, (ad178.add ((x5_1).toNat * 5)).off + 2, none⟩ = some (.string ((rd_T40 l1 x5_1).f2)) ∧ w'.cell? ⟨(ad178.add ((x5_1).toNat * 5)).block, (ad178.add ((x5_1).toNat * 5)).off + 3, none⟩ = some (.slice A178_3 ((rd_T40 l1 x5_1).f3).length c178_3) ∧ w'.cell? ⟨(ad178.add ((x5_1).toNat * 5)).block, (ad178.add ((x5_1).toNat * 5)).off + 4, none⟩ = some (.slice A178_4 ((rd_T40 l1 x5_1).f4).length c178_4)) (ds := []) #[false, false, false, false, false, false, false, false, false, false] (by kernel_rfl) rfl rfl ⟨((HB.out.cell (World.block_lt_of_cell? w _ hw177_0)).trans hw177_0), ((HB.out.cell (World.block_lt_of_cell? w _ hw177_1)).trans hw177_1), ((HB.out.cell (World.block_lt_of_cell? w _ hw177_2)).trans hw177_2), ((HB.out.cell (World.block_lt_of_cell? w _ hw177_3)).trans hw177_3), ((HB.out.cell (World.block_lt_of_cell? w _ hw177_4)).trans hw177_4), ((HB.out.cell (World.block_lt_of_cell? w _ hw178_0)).trans hw178_0), ((HB.out.cell (World.block_lt_of_cell? w _ hw178_1)).trans hw178_1), ((HB.out.cell (World.block_lt_of_cell? w _ hw178_2)).trans hw178_2), ((HB.out.cell (World.block_lt_of_cell? w _ hw178_3)).trans hw178_3), ((HB.out.cell (World.block_lt_of_cell? w _ hw178_4)).trans hw178_4)⟩ (fun hHeld => ?_); refine with_tabW chancelref06_Same.tab6 chancelref06_Same.bits6 (fun HT_ HW_ => ?_)
                generalize wr.drew = w9 at HB HR177_3 HR177_4 HR178_3 HR178_4 hx177_0 hx177_1 hx177_2 hx177_3 hx177_4 hx178_0 hx178_1 hx178_2 hx178_3 hx178_4 hHeld ⊢
                refine pure_ (i := 0) (N := some 17) (v := ?_) (a' := ?_) #[true, false, false, false, false, false, false, false, false, false] rfl rfl (any_of HT_.out (by kernel_rfl)) (fun _ _ _ h => h) (Or.inl ⟨by rfl, ?_⟩) ?_ ?_
                rotate_left
                · intro w'
                  go_simp
                  with_reducible rfl
                rotate_left
                · simp only [Act.put, List.setIfInBounds_toArray, List.set_cons_zero, List.set_cons_succ, i64_w, i32_w]
                  rfl
                refine pure_ (i := 1) (N := some 18) (v := ?_) (a' := ?_) #[true, true, false, false, false, false, false, false, false, false] rfl rfl (any_of HT_.out (by kernel_rfl)) (fun _ _ _ h => h) (Or.inl ⟨by rfl, ?_⟩) ?_ ?_
                rotate_left
                · intro w'
                  go_simp
                  with_reducible rfl
                rotate_left
                · simp only [Act.put, List.setIfInBounds_toArray, List.set_cons_zero, List.set_cons_succ, i64_w, i32_w]
                  rfl
                refine pure_ (i := 2) (N := some 19) (v := ?_) (a' := ?_) #[true, true, true, false, false, false, false, false, false, false] rfl rfl (any_of HT_.out (by kernel_rfl)) (fun _ _ _ h => h) (Or.inl ⟨by rfl, ?_⟩) ?_ ?_
                rotate_left
                · intro w'
                  go_simp
                  with_reducible rfl
                rotate_left
                · simp only [Act.put, List.setIfInBounds_toArray, List.set_cons_zero, List.set_cons_succ, i64_w, i32_w]
                  rfl
                refine pure_ (i := 4) (N := some 21) (v := ?_) (a' := ?_) #[true, true, true, false, true, false, false, false, false, false] rfl rfl (any_of HT_.out (by kernel_rfl)) (fun _ _ _ h => h) (Or.inl ⟨by rfl, ?_⟩) ?_ ?_
                rotate_left
                · intro w'
                  go_simp
                  with_reducible rfl
                rotate_left
                · simp only [Act.put, List.setIfInBounds_toArray, List.set_cons_zero, List.set_cons_succ, i64_w, i32_w]
                  rfl
                refine pure_ (i := 5) (N := some 22) (v := ?_) (a' := ?_) #[true, true, true, false, true, true, false, false, false, false] rfl rfl (any_of HT_.out (by kernel_rfl)) (fun _ _ _ h => h) (Or.inl ⟨by rfl, ?_⟩) ?_ ?_
                rotate_left
                · intro w'
                  go_simp
                  with_reducible rfl
                rotate_left
                · simp only [Act.put, List.setIfInBounds_toArray, List.set_cons_zero, List.set_cons_succ, i64_w, i32_w]
                  rfl
                refine pure_ (i := 6) (N := some 23) (v := ?_) (a' := ?_) #[true, true, true, false, true, true, true, false, false, false] rfl rfl (any_of HT_.out (by kernel_rfl)) (fun _ _ _ h => h) (Or.inl ⟨by rfl, ?_⟩) ?_ ?_
                rotate_left
                · intro w'
                  go_simp
                  with_reducible rfl
                rotate_left
                · simp only [Act.put, List.setIfInBounds_toArray, List.set_cons_zero, List.set_cons_succ, i64_w, i32_w]
                  rfl
                refine take_ (i := 3) (N := some 20) (v := ?_) (a' := ?_) #[true, true, true, true, true, true, true, false, false, false] rfl rfl (take_ofW HT_.out HW_.out (by kernel_rfl)) (fun _ _ _ h => h) (Or.inl ⟨by rfl, ?_⟩) hHeld ?_ ?_
                rotate_left
                · rintro w' ⟨s0, s1, s2, s3, s4, s5, s6, s7, s8, s9⟩
                  go_simp
                  with_reducible rfl
                rotate_left
                · simp only [Act.put, List.setIfInBounds_toArray, List.set_cons_zero, List.set_cons_succ, i64_w, i32_w]
                  rfl
                refine take_ (i := 7) (N := some 24) (v := ?_) (a' := ?_) #[true, true, true, true, true, true, true, true, false, false] rfl rfl (take_ofW HT_.out HW_.out (by kernel_rfl)) (fun _ _ _ h => h) (Or.inl ⟨by rfl, ?_⟩) hHeld ?_ ?_
                rotate_left
                · rintro w' ⟨s0, s1, s2, s3, s4, s5, s6, s7, s8, s9⟩
                  go_simp
                  with_reducible rfl
                rotate_left
                · simp only [Act.put, List.setIfInBounds_toArray, List.set_cons_zero, List.set_cons_succ, i64_w, i32_w]
                  rfl
                refine one_ (i := 8) (N := some 25) #[true, true, true, true, true, true, true, true, true, false] rfl rfl (one_of HT_.out (by kernel_rfl)) (by decide) (fun K hK => ?_)
                refine goes_ Tryd.func22 (by kernel_rfl) rfl #[.agg #[.int .i64 ((rd_T40 l0 x5_1).f0), .int .i64 ((rd_T40 l0 x5_1).f1), .string ((rd_T40 l0 x5_1).f2), .slice A177_3 ((rd_T40 l0 x5_1).f3).length c177_3, .slice A177_4 ((rd_T40 l0 x5_1).f4).length c177_4], .agg #[.int .i64 ((rd_T40 l1 x5_1).f0), .int .i64 ((rd_T40 l1 x5_1).f1), .string ((rd_T40 l1 x5_1).f2), .slice A178_3 ((rd_T40 l1 x5_1).f3).length c178_3, .slice A178_4 ((rd_T40 l1 x5_1).f4).length c178_4]] (by rfl) rfl rfl (by (try simp only [List.map_toArray, List.map_cons, List.map_nil]); first | done | rfl | (simp only [List.length_drop, List.length_take]; rfl)) ?_
                with_reducible refine (chancelref05_Same.calls k1 ((rd_T40 l0 x5_1).f0) ((rd_T40 l0 x5_1).f1) ((rd_T40 l0 x5_1).f2) _ _ ((rd_T40 l0 x5_1).f3) _ _ ((rd_T40 l0 x5_1).f4) ((rd_T40 l1 x5_1).f0) ((rd_T40 l1 x5_1).f1) ((rd_T40 l1 x5_1).f2) _ _ ((rd_T40 l1 x5_1).f3) _ _ ((rd_T40 l1 x5_1).f4) true _ ?side1 ?side2 ?side3 ?side4 ?side5 ?side6 ?side7 ?side8 A7.out).mono ?_
                (case side1 => repeat (first | exact (Kd.C_below HR177_3.out HB.out) | (with_reducible refine Kd.C_alloc ?_ _) | (with_reducible refine Kd.C_drewN ?_ _) | (with_reducible refine Kd.C_drew ?_)))
                (case side2 => exact HC177_3.out)
                (case side3 => repeat (first | exact (Kd.C_below HR177_4.out HB.out) | (with_reducible refine Kd.C_alloc ?_ _) | (with_reducible refine Kd.C_drewN ?_ _) | (with_reducible refine Kd.C_drew ?_)))
                (case side4 => exact HC177_4.out)
                (case side5 => repeat (first | exact (Kd.C_below HR178_3.out HB.out) | (with_reducible refine Kd.C_alloc ?_ _) | (with_reducible refine Kd.C_drewN ?_ _) | (with_reducible refine Kd.C_drew ?_)))
                (case side6 => exact HC178_3.out)
                (case side7 => repeat (first | exact (Kd.C_below HR178_4.out HB.out) | (with_reducible refine Kd.C_alloc ?_ _) | (with_reducible refine Kd.C_drewN ?_ _) | (with_reducible refine Kd.C_drew ?_)))
                (case side8 => exact HC178_4.out)
                rintro e w10 ⟨rfl, hb⟩
                refine ⟨_, rfl, ?_⟩
                have n0_ := Aside0.mk (below_step (by repeat (first | (with_reducible first | exact HB.out | apply below_alloc | apply pw_below_drewN | apply below_drew1) | exact HB.out)) hb)
                clear HB
                have HB := n0_
                clear n0_
                (try clear hb)
                (try clear hb2)
                (try clear hk)
                (try clear hi)
                refine hK.out _ _ ⟨((HB.out.cell (World.block_lt_of_cell? w _ hw177_0)).trans hw177_0), ((HB.out.cell (World.block_lt_of_cell? w _ hw177_1)).trans hw177_1), ((HB.out.cell (World.block_lt_of_cell? w _ hw177_2)).trans hw177_2), ((HB.out.cell (World.block_lt_of_cell? w _ hw177_3)).trans hw177_3), ((HB.out.cell (World.block_lt_of_cell? w _ hw177_4)).trans hw177_4), ((HB.out.cell (World.block_lt_of_cell? w _ hw178_0)).trans hw178_0), ((HB.out.cell (World.block_lt_of_cell? w _ hw178_1)).trans hw178_1), ((HB.out.cell (World.block_lt_of_cell? w _ hw178_2)).trans hw178_2), ((HB.out.cell (World.block_lt_of_cell? w _ hw178_3)).trans hw178_3), ((HB.out.cell (World.block_lt_of_cell? w _ hw178_4)).trans hw178_4)⟩ (fun hHeld => ?_)
                clear hK K
                refine norm_ (a' := ?_) ?_ ?_
                rotate_left
                · show Act.put _ (some 25) _ = _
                  simp only [Act.put, List.setIfInBounds_toArray, List.set_cons_zero, List.set_cons_succ, i64_w, i32_w]
                  rfl
                refine pure_ (i := 9) (N := some 26) (v := ?_) (a' := ?_) #[true, true, true, true, true, true, true, true, true, true] rfl rfl (any_of HT_.out (by kernel_rfl)) (fun _ _ _ h => h) (Or.inl ⟨by rfl, ?_⟩) ?_ ?_
                rotate_left
                · intro w'
                  go_simp
                  with_reducible rfl
                rotate_left
                · simp only [Act.put, List.setIfInBounds_toArray, List.set_cons_zero, List.set_cons_succ, i64_w, i32_w]
                  rfl
                refine done_ (done_of HT_.out (by kernel_rfl)) ?_
                try go_wp2
                go_roundg k1
                case measure => have := HK1.out; omega
                case rel => exact ⟨(wrap64 (x5_1 + 1)), (by first | rfl | (simp; done) | (simp [*]; done)), H', ⟨by have := HK1.out; omega⟩, ⟨by repeat (first | (with_reducible first | exact HB.out | apply below_alloc | apply pw_below_drewN | apply below_drew1) | exact HB.out)⟩⟩
              · replace c8 := Bool.eq_false_iff.mpr c8
                subst c8
                have H1 : (some false) = some r := by rw [if_neg (show ¬ (false = true) by decide)] at H; exact H
                clear H
                have H := H1
                clear H1
                obtain rfl := Option.some.inj H
                try go_wp2
                have n0_ := Aside0.mk (below_drew1 HB.out)
                clear HB
                have HB := n0_
                clear n0_
                have p177 : 0 ≤ (x5_1 : Int) := of_decide_eq_true (by first | (with_reducible assumption) | assumption)
                have q177 : x5_1 < (l0.length : Int) := of_decide_eq_true (by first | (with_reducible assumption) | assumption)
                obtain ⟨ad177, A177_3, c177_3, A177_4, c177_4, e177, hx177_0, hx177_1, hx177_2, hx177_3, hx177_4, hl177_3, hi177_3, hl177_4, hi177_4⟩ := at_T40 HR0.out x5_1 p177 q177
                have hw177_4 := hx177_4
                have hw177_3 := hx177_3
                have hw177_2 := hx177_2
                have hw177_1 := hx177_1
                have hw177_0 := hx177_0
                cases e177
                replace hx177_0 := (HB.out.cell (World.block_lt_of_cell? w _ hx177_0)).trans hx177_0
                replace hx177_1 := (HB.out.cell (World.block_lt_of_cell? w _ hx177_1)).trans hx177_1
                replace hx177_2 := (HB.out.cell (World.block_lt_of_cell? w _ hx177_2)).trans hx177_2
                replace hx177_3 := (HB.out.cell (World.block_lt_of_cell? w _ hx177_3)).trans hx177_3
                replace hx177_4 := (HB.out.cell (World.block_lt_of_cell? w _ hx177_4)).trans hx177_4
                have HR177_3 := Aside0.mk hi177_3
                have HC177_3 := Aside0.mk hl177_3
                clear hi177_3 hl177_3
                have HR177_4 := Aside0.mk hi177_4
                have HC177_4 := Aside0.mk hl177_4
                clear hi177_4 hl177_4
                replace p177 := eq_true p177
                replace q177 := eq_true q177
                have p178 : 0 ≤ (x5_1 : Int) := of_decide_eq_true (by first | (with_reducible assumption) | assumption)
                have q178 : x5_1 < (l1.length : Int) := of_decide_eq_true (by first | (with_reducible assumption) | assumption)
                obtain ⟨ad178, A178_3, c178_3, A178_4, c178_4, e178, hx178_0, hx178_1, hx178_2, hx178_3, hx178_4, hl178_3, hi178_3, hl178_4, hi178_4⟩ := at_T40 HR1.out x5_1 p178 q178
                have hw178_4 := hx178_4
                have hw178_3 := hx178_3
                have hw178_2 := hx178_2
                have hw178_1 := hx178_1
                have hw178_0 := hx178_0
                cases e178
                replace hx178_0 := (HB.out.cell (World.block_lt_of_cell? w _ hx178_0)).trans hx178_0
                replace hx178_1 := (HB.out.cell (World.block_lt_of_cell? w _ hx178_1)).trans hx178_1
                replace hx178_2 := (HB.out.cell (World.block_lt_of_cell? w _ hx178_2)).trans hx178_2
                replace hx178_3 := (HB.out.cell (World.block_lt_of_cell? w _ hx178_3)).trans hx178_3
                replace hx178_4 := (HB.out.cell (World.block_lt_of_cell? w _ hx178_4)).trans hx178_4
                have HR178_3 := Aside0.mk hi178_3
                have HC178_3 := Aside0.mk hl178_3
                clear hi178_3 hl178_3
                have HR178_4 := Aside0.mk hi178_4
                have HC178_4 := Aside0.mk hl178_4
                clear hi178_4 hl178_4
                replace p178 := eq_true p178
                replace q178 := eq_true q178
                refine start_ (n := 10) (S := fun w' => w'.cell? (ad177.add ((x5_1).toNat * 5)) = some (.int .i64 ((rd_T40 l0 x5_1).f0)) ∧ w'.cell? ⟨(ad177.add ((x5_1).toNat * 5)).block, (ad177.add ((x5_1).toNat * 5)).off + 1, none⟩ = some (.int .i64 ((rd_T40 l0 x5_1).f1)) ∧ w'.cell? ⟨(ad177.add ((x5_1).toNat * 5)).block, (ad177.add ((x5_1).toNat * 5)).off + 2, none⟩ = some (.string ((rd_T40 l0 x5_1).f2)) ∧ w'.cell? ⟨(ad177.add ((x5_1).toNat * 5)).block, (ad177.add ((x5_1).toNat * 5)).off + 3, none⟩ = some (.slice A177_3 ((rd_T40 l0 x5_1).f3).length c177_3) ∧ w'.cell? ⟨(ad177.add ((x5_1).toNat * 5)).block, (ad177.add ((x5_1).toNat * 5)).off + 4, none⟩ = some (.slice A177_4 ((rd_T40 l0 x5_1).f4).length c177_4) ∧ w'.cell? (ad178.add ((x5_1).toNat * 5)) = some (.int .i64 ((rd_T40 l1 x5_1).f0)) ∧ w'.cell? ⟨(ad178.add ((x5_1).toNat * 5)).block, (ad178.add ((x5_1).toNat * 5)).off + 1, none⟩ = some (.int .i64 ((rd_T40 l1 x5_1).f1)) ∧ w'.cell? ⟨(ad178.add ((x5_1).toNat * 5)).block, (ad178.add ((x5_1).toNat * 5)).off + 2, none⟩ = some (.string ((rd_T40 l1 x5_1).f2)) ∧ w'.cell? ⟨(ad178.add ((x5_1).toNat * 5)).block, (ad178.add ((x5_1).toNat * 5)).off + 3, none⟩ = some (.slice A178_3 ((rd_T40 l1 x5_1).f3).length c178_3) ∧ w'.cell? ⟨(ad178.add ((x5_1).toNat * 5)).block, (ad178.add ((x5_1).toNat * 5)).off + 4, none⟩ = some (.slice A178_4 ((rd_T40 l1 x5_1).f4).length c178_4)) (ds := []) #[false, false, false, false, false, false, false, false, false, false] (by kernel_rfl) rfl rfl ⟨((HB.out.cell (World.block_lt_of_cell? w _ hw177_0)).trans hw177_0), ((HB.out.cell (World.block_lt_of_cell? w _ hw177_1)).trans hw177_1), ((HB.out.cell (World.block_lt_of_cell? w _ hw177_2)).trans hw177_2), ((HB.out.cell (World.block_lt_of_cell? w _ hw177_3)).trans hw177_3), ((HB.out.cell (World.block_lt_of_cell? w _ hw177_4)).trans hw177_4), ((HB.out.cell (World.block_lt_of_cell? w _ hw178_0)).trans hw178_0), ((HB.out.cell (World.block_lt_of_cell? w _ hw178_1)).trans hw178_1), ((HB.out.cell (World.block_lt_of_cell? w _ hw178_2)).trans hw178_2), ((HB.out.cell (World.block_lt_of_cell? w _ hw178_3)).trans hw178_3), ((HB.out.cell (World.block_lt_of_cell? w _ hw178_4)).trans hw178_4)⟩ (fun hHeld => ?_); refine with_tabW chancelref06_Same.tab6 chancelref06_Same.bits6 (fun HT_ HW_ => ?_)
                generalize wr.drew = w11 at HB HR177_3 HR177_4 HR178_3 HR178_4 hx177_0 hx177_1 hx177_2 hx177_3 hx177_4 hx178_0 hx178_1 hx178_2 hx178_3 hx178_4 hHeld ⊢
                refine pure_ (i := 0) (N := some 17) (v := ?_) (a' := ?_) #[true, false, false, false, false, false, false, false, false, false] rfl rfl (any_of HT_.out (by kernel_rfl)) (fun _ _ _ h => h) (Or.inl ⟨by rfl, ?_⟩) ?_ ?_
                rotate_left
                · intro w'
                  go_simp
                  with_reducible rfl
                rotate_left
                · simp only [Act.put, List.setIfInBounds_toArray, List.set_cons_zero, List.set_cons_succ, i64_w, i32_w]
                  rfl
                refine pure_ (i := 1) (N := some 18) (v := ?_) (a' := ?_) #[true, true, false, false, false, false, false, false, false, false] rfl rfl (any_of HT_.out (by kernel_rfl)) (fun _ _ _ h => h) (Or.inl ⟨by rfl, ?_⟩) ?_ ?_
                rotate_left
                · intro w'
                  go_simp
                  with_reducible rfl
                rotate_left
                · simp only [Act.put, List.setIfInBounds_toArray, List.set_cons_zero, List.set_cons_succ, i64_w, i32_w]
                  rfl
                refine pure_ (i := 2) (N := some 19) (v := ?_) (a' := ?_) #[true, true, true, false, false, false, false, false, false, false] rfl rfl (any_of HT_.out (by kernel_rfl)) (fun _ _ _ h => h) (Or.inl ⟨by rfl, ?_⟩) ?_ ?_
                rotate_left
                · intro w'
                  go_simp
                  with_reducible rfl
                rotate_left
                · simp only [Act.put, List.setIfInBounds_toArray, List.set_cons_zero, List.set_cons_succ, i64_w, i32_w]
                  rfl
                refine pure_ (i := 4) (N := some 21) (v := ?_) (a' := ?_) #[true, true, true, false, true, false, false, false, false, false] rfl rfl (any_of HT_.out (by kernel_rfl)) (fun _ _ _ h => h) (Or.inl ⟨by rfl, ?_⟩) ?_ ?_
                rotate_left
                · intro w'
                  go_simp
                  with_reducible rfl
                rotate_left
                · simp only [Act.put, List.setIfInBounds_toArray, List.set_cons_zero, List.set_cons_succ, i64_w, i32_w]
                  rfl
                refine pure_ (i := 5) (N := some 22) (v := ?_) (a' := ?_) #[true, true, true, false, true, true, false, false, false, false] rfl rfl (any_of HT_.out (by kernel_rfl)) (fun _ _ _ h => h) (Or.inl ⟨by rfl, ?_⟩) ?_ ?_
                rotate_left
                · intro w'
                  go_simp
                  with_reducible rfl
                rotate_left
                · simp only [Act.put, List.setIfInBounds_toArray, List.set_cons_zero, List.set_cons_succ, i64_w, i32_w]
                  rfl
                refine pure_ (i := 6) (N := some 23) (v := ?_) (a' := ?_) #[true, true, true, false, true, true, true, false, false, false] rfl rfl (any_of HT_.out (by kernel_rfl)) (fun _ _ _ h => h) (Or.inl ⟨by rfl, ?_⟩) ?_ ?_
                rotate_left
                · intro w'
                  go_simp
                  with_reducible rfl
                rotate_left
                · simp only [Act.put, List.setIfInBounds_toArray, List.set_cons_zero, List.set_cons_succ, i64_w, i32_w]
                  rfl
                refine take_ (i := 3) (N := some 20) (v := ?_) (a' := ?_) #[true, true, true, true, true, true, true, false, false, false] rfl rfl (take_ofW HT_.out HW_.out (by kernel_rfl)) (fun _ _ _ h => h) (Or.inl ⟨by rfl, ?_⟩) hHeld ?_ ?_
                rotate_left
                · rintro w' ⟨s0, s1, s2, s3, s4, s5, s6, s7, s8, s9⟩
                  go_simp
                  with_reducible rfl
                rotate_left
                · simp only [Act.put, List.setIfInBounds_toArray, List.set_cons_zero, List.set_cons_succ, i64_w, i32_w]
                  rfl
                refine take_ (i := 7) (N := some 24) (v := ?_) (a' := ?_) #[true, true, true, true, true, true, true, true, false, false] rfl rfl (take_ofW HT_.out HW_.out (by kernel_rfl)) (fun _ _ _ h => h) (Or.inl ⟨by rfl, ?_⟩) hHeld ?_ ?_
                rotate_left
                · rintro w' ⟨s0, s1, s2, s3, s4, s5, s6, s7, s8, s9⟩
                  go_simp
                  with_reducible rfl
                rotate_left
                · simp only [Act.put, List.setIfInBounds_toArray, List.set_cons_zero, List.set_cons_succ, i64_w, i32_w]
                  rfl
                refine one_ (i := 8) (N := some 25) #[true, true, true, true, true, true, true, true, true, false] rfl rfl (one_of HT_.out (by kernel_rfl)) (by decide) (fun K hK => ?_)
                refine goes_ Tryd.func22 (by kernel_rfl) rfl #[.agg #[.int .i64 ((rd_T40 l0 x5_1).f0), .int .i64 ((rd_T40 l0 x5_1).f1), .string ((rd_T40 l0 x5_1).f2), .slice A177_3 ((rd_T40 l0 x5_1).f3).length c177_3, .slice A177_4 ((rd_T40 l0 x5_1).f4).length c177_4], .agg #[.int .i64 ((rd_T40 l1 x5_1).f0), .int .i64 ((rd_T40 l1 x5_1).f1), .string ((rd_T40 l1 x5_1).f2), .slice A178_3 ((rd_T40 l1 x5_1).f3).length c178_3, .slice A178_4 ((rd_T40 l1 x5_1).f4).length c178_4]] (by rfl) rfl rfl (by (try simp only [List.map_toArray, List.map_cons, List.map_nil]); first | done | rfl | (simp only [List.length_drop, List.length_take]; rfl)) ?_
                with_reducible refine (chancelref05_Same.calls k1 ((rd_T40 l0 x5_1).f0) ((rd_T40 l0 x5_1).f1) ((rd_T40 l0 x5_1).f2) _ _ ((rd_T40 l0 x5_1).f3) _ _ ((rd_T40 l0 x5_1).f4) ((rd_T40 l1 x5_1).f0) ((rd_T40 l1 x5_1).f1) ((rd_T40 l1 x5_1).f2) _ _ ((rd_T40 l1 x5_1).f3) _ _ ((rd_T40 l1 x5_1).f4) false _ ?side1 ?side2 ?side3 ?side4 ?side5 ?side6 ?side7 ?side8 A7.out).mono ?_
                (case side1 => repeat (first | exact (Kd.C_below HR177_3.out HB.out) | (with_reducible refine Kd.C_alloc ?_ _) | (with_reducible refine Kd.C_drewN ?_ _) | (with_reducible refine Kd.C_drew ?_)))
                (case side2 => exact HC177_3.out)
                (case side3 => repeat (first | exact (Kd.C_below HR177_4.out HB.out) | (with_reducible refine Kd.C_alloc ?_ _) | (with_reducible refine Kd.C_drewN ?_ _) | (with_reducible refine Kd.C_drew ?_)))
                (case side4 => exact HC177_4.out)
                (case side5 => repeat (first | exact (Kd.C_below HR178_3.out HB.out) | (with_reducible refine Kd.C_alloc ?_ _) | (with_reducible refine Kd.C_drewN ?_ _) | (with_reducible refine Kd.C_drew ?_)))
                (case side6 => exact HC178_3.out)
                (case side7 => repeat (first | exact (Kd.C_below HR178_4.out HB.out) | (with_reducible refine Kd.C_alloc ?_ _) | (with_reducible refine Kd.C_drewN ?_ _) | (with_reducible refine Kd.C_drew ?_)))
                (case side8 => exact HC178_4.out)
                rintro e w12 ⟨rfl, hb⟩
                refine ⟨_, rfl, ?_⟩
                have n0_ := Aside0.mk (below_step (by repeat (first | (with_reducible first | exact HB.out | apply below_alloc | apply pw_below_drewN | apply below_drew1) | exact HB.out)) hb)
                clear HB
                have HB := n0_
                clear n0_
                (try clear hb)
                (try clear hb2)
                (try clear hk)
                (try clear hi)
                refine hK.out _ _ ⟨((HB.out.cell (World.block_lt_of_cell? w _ hw177_0)).trans hw177_0), ((HB.out.cell (World.block_lt_of_cell? w _ hw177_1)).trans hw177_1), ((HB.out.cell (World.block_lt_of_cell? w _ hw177_2)).trans hw177_2), ((HB.out.cell (World.block_lt_of_cell? w _ hw177_3)).trans hw177_3), ((HB.out.cell (World.block_lt_of_cell? w _ hw177_4)).trans hw177_4), ((HB.out.cell (World.block_lt_of_cell? w _ hw178_0)).trans hw178_0), ((HB.out.cell (World.block_lt_of_cell? w _ hw178_1)).trans hw178_1), ((HB.out.cell (World.block_lt_of_cell? w _ hw178_2)).trans hw178_2), ((HB.out.cell (World.block_lt_of_cell? w _ hw178_3)).trans hw178_3), ((HB.out.cell (World.block_lt_of_cell? w _ hw178_4)).trans hw178_4)⟩ (fun hHeld => ?_)
                clear hK K
                refine norm_ (a' := ?_) ?_ ?_
                rotate_left
                · show Act.put _ (some 25) _ = _
                  simp only [Act.put, List.setIfInBounds_toArray, List.set_cons_zero, List.set_cons_succ, i64_w, i32_w]
                  rfl
                refine pure_ (i := 9) (N := some 26) (v := ?_) (a' := ?_) #[true, true, true, true, true, true, true, true, true, true] rfl rfl (any_of HT_.out (by kernel_rfl)) (fun _ _ _ h => h) (Or.inl ⟨by rfl, ?_⟩) ?_ ?_
                rotate_left
                · intro w'
                  go_simp
                  with_reducible rfl
                rotate_left
                · simp only [Act.put, List.setIfInBounds_toArray, List.set_cons_zero, List.set_cons_succ, i64_w, i32_w]
                  rfl
                refine done_ (done_of HT_.out (by kernel_rfl)) ?_
                try go_wp2
                go_ret
                exact ⟨by first | rfl | (simp [errW_none, errW_some] <;> rfl) | (simp [*, errW_none, errW_some] <;> rfl), by repeat (first | (with_reducible first | exact HB.out | apply below_alloc | apply pw_below_drewN | apply below_drew1) | exact HB.out)⟩
            · rw [if_neg c6] at H
              exact absurd H (by simp)
          · rw [if_neg c5] at H
            exact absurd H (by simp)
        · rw [if_neg c4] at H
          have c4b0 : decide (x5_1 < (l0.length : Int)) = false := decide_eq_false c4
          clear c4
          obtain rfl := Option.some.inj H
          go_wp2
          go_ret
          exact ⟨by first | rfl | (simp [errW_none, errW_some] <;> rfl) | (simp [*, errW_none, errW_some] <;> rfl), by repeat (first | (with_reducible first | exact HB.out | apply below_alloc | apply pw_below_drewN | apply below_drew1) | exact HB.out)⟩
  · rw [if_neg c3] at H
    have c3b0 : ((l0.length : Int) == (l1.length : Int)) = false := beq_eq_false_iff_ne.mpr c3
    have c3b1 : ((l0.length : Int) != (l1.length : Int)) = true := bne_iff_ne.mpr c3
    have c3b2 : (l0.length == l1.length) = false := by first | simpa using c3 | (simp at c3 ⊢; omega)
    obtain rfl := Option.some.inj H
    go_enter Tryd.func15, Tryd.ntmps15
    go_wp2
    go_ret
    exact ⟨by first | rfl | (simp [errW_none, errW_some] <;> rfl) | (simp [*, errW_none, errW_some] <;> rfl), by repeat (first | (with_reducible first | exact HB.out | apply below_alloc | apply pw_below_drewN | apply below_drew1) | exact HB.out)⟩

-- NOT PRINTED: function 77 (abi_NoEscape)

-- NOT PRINTED: function 70 (strings_Builder_copyCheck)

-- NOT PRINTED: function 78 (bytealg_MakeNoZero)

-- NOT PRINTED: function 71 (strings_Builder_grow)

-- NOT PRINTED: function 58 (strings_Builder_Grow)

-- NOT PRINTED: function 59 (strings_Builder_WriteString)

-- NOT PRINTED: function 60 (strings_Builder_String)

-- NOT PRINTED: function 38 (strings_Join)

-- NOT PRINTED: function 39 (rope_Rope_Parts)

-- NOT PRINTED: function 19 (rope_Rope_Text)

-- NOT PRINTED: function 23 (segment_Segment_Plain)

-- NOT PRINTED: function 16 (sheet_Sheet_Plain)

-- NOT PRINTED: function 51 (segment_Segment_Twin)

-- NOT PRINTED: function 30 (sheet_Sheet_Fork)

-- NOT PRINTED: function 56 (segment_Segment_56)

-- NOT PRINTED: function 52 (segment_Segment_52)

-- NOT PRINTED: function 31 (sheet_Sheet_With)

/-! ### chancelref06_Fork: function 33 -/
def chancelref06_Fork.l0 : Nat → List (S40) → Int → List (S40) → Int → Option ((List (S40)))
  | 0, _, _, _, _ => none
  | k + 1, x0, x1, x5, x6 => if x6 < (x0.length : Int) then (if 0 ≤ x6 then (if x5.length < 1759218604441 then (chancelref06_Fork.l0 k x0 x1 (x5 ++ [(⟨wrap64 (x1 + x6), (rd_T40 x0 x6).f1, (rd_T40 x0 x6).f2, ([] : List (S83)), ([] : List (S86))⟩ : S40)]) (wrap64 (x6 + 1))) else (none)) else (none)) else (some x5)
def chancelref06_Fork.f (k : Nat) (l0 : List (S40)) (a1 : Int) : Option ((List (S40))) := chancelref06_Fork.l0 k l0 a1 ([] : List (S40)) 0
theorem chancelref06_Fork.mono_l : ∀ k, (∀ y0 y1 y2 y3, LeO (chancelref06_Fork.l0 k y0 y1 y2 y3) (chancelref06_Fork.l0 (k + 1) y0 y1 y2 y3))
  | 0 => fun _ _ _ _ r h => by simp [chancelref06_Fork.l0] at h
  | k + 1 => by
    have ih0 := chancelref06_Fork.mono_l k
    · intro y0 y1 y2 y3
      unfold chancelref06_Fork.l0
      repeat' first
      | (with_reducible exact ih0 _ _ _ _)
      | (with_reducible exact LeO.refl _)
      | (with_reducible exact LeO.none _)
      | (with_reducible refine LeO.ite ?_ ?_)
      | (with_reducible refine LeO.bind ?_ (fun _ => ?_))
      | exact ih0 _ _ _ _
      | exact LeO.none _
      | refine LeO.ite ?_ ?_
      | refine LeO.bind ?_ (fun _ => ?_)
theorem chancelref06_Fork.mono : ∀ a0 a1 k, LeO (chancelref06_Fork.f k a0 a1) (chancelref06_Fork.f (k + 1) a0 a1) := by
  intro a0 a1 k
  have ih0 := chancelref06_Fork.mono_l k
  unfold chancelref06_Fork.f
  repeat' first
      | (with_reducible exact ih0 _ _ _ _)
      | (with_reducible exact LeO.refl _)
      | (with_reducible exact LeO.none _)
      | (with_reducible refine LeO.ite ?_ ?_)
      | (with_reducible refine LeO.bind ?_ (fun _ => ?_))
      | exact ih0 _ _ _ _
      | exact LeO.none _
      | refine LeO.ite ?_ ?_
      | refine LeO.bind ?_ (fun _ => ?_)
def chancelref06_Fork.T5 : Bool × List (List Nat × List Nat) := (true, [([], []), ([], []), ([], []), ([1, 2], [1, 2]), ([], []), ([], []), ([4, 5], [4, 5]), ([6], [6]), ([7], [7]), ([], []), ([], []), ([9, 10], [9, 10]), ([11], [11]), ([12], [12]), ([3, 8, 13], [3, 8, 13]), ([14], [14]), ([0, 15], [0, 15]), ([16, 16, 0, 1, 2, 3, 4, 5, 6, 7, 8, 9, 10, 11, 12, 13, 14, 15, 16], [0, 16])])
def chancelref06_Fork.B5 : List Nat := [0, 0, 0, 6, 0, 0, 48, 112, 240, 0, 0, 1536, 3584, 7680, 16382, 32766, 65535, 131071]
theorem chancelref06_Fork.tab5 : rtab .any (opsOf Tryd.f33 5) = chancelref06_Fork.T5 := by kernel_rfl
theorem chancelref06_Fork.bits5 : waitsOk chancelref06_Fork.T5.2 chancelref06_Fork.B5 = true := by kernel_rfl
set_option maxHeartbeats 8000000 in
set_option maxRecDepth 100000 in
theorem chancelref06_Fork.calls (k : Nat) (A0 : Option Addr) (c0 : Nat) (l0 : List (S40)) (a1 : Int) (r : List (S40)) (w : World) (hr0 : Kd.C k40 w A0 l0.length l0) (hc0 : l0.length ≤ c0) (h : chancelref06_Fork.f k l0 a1 = some r) :
    Calls Tryd.prog 33 #[.slice A0 l0.length c0, .int .i64 a1] w fun e w' => ∃ v0_ : Value, e = .returned (v0_) ∧ Kd.S k40 40 w' w.heap.size (fun _ => True) v0_ r ∧ Below w.heap.size w w' := by
  have hu40 := Tryd.underlying40
  have HR0 := Aside0.mk hr0
  have HC0 := Aside0.mk hc0
  clear hr0 hc0
  have HB := Aside0.mk (Below.refl w.heap.size w)
  have H : (chancelref06_Fork.l0 k l0 a1 ([] : List (S40)) 0) = some r := h
  clear h
  have H' := Aside0.mk H
  clear H
  go_enter Tryd.func33, Tryd.ntmps33
  go_wp2
  go_loopg [5, 6] k (fun kq v5 v6 w' => ∃ (x5_1 : List (S40)) (x6_1 : Int), v6 = .int .i64 x6_1 ∧ Aside0 (chancelref06_Fork.l0 kq l0 a1 x5_1 x6_1 = some r) ∧ Aside0 (kq ≤ k) ∧ Aside0 (Kd.S k40 40 w' w.heap.size (fun _ => True) v5 x5_1) ∧ Aside0 (Below w.heap.size w w'))
  case atStart => exact ⟨(([] : List (S40))), (0), (by first | rfl | (simp; done) | (simp [*]; done)), H', ⟨Nat.le_refl _⟩, ⟨by first | exact Kd.S_nil _ _ _ _ _ | exact Kd.N_nil _ _ _ _ _ | exact Kd.V_nil _ _ _ _ _ | exact Kd.Q_nil _ _ _ _ _ | exact Kd.R_nil _ _ _ _ _⟩, ⟨by repeat (first | (with_reducible first | exact HB.out | apply below_alloc | apply pw_below_drewN | apply below_drew1) | exact HB.out)⟩⟩
  case round =>
    clear H'
    try clear p2
    obtain ⟨x5_1, x6_1, rfl, HA, HK1, HO_5, HB⟩ := hrel
    cases gk with
    | zero => exact absurd HA.out (by simp [chancelref06_Fork.l0])
    | succ k1 =>
      have H := HA.out
      clear HA
      simp only [chancelref06_Fork.l0] at H
      by_cases c3 : x6_1 < (l0.length : Int)
      · rw [if_pos c3] at H
        have c3b0 : decide (x6_1 < (l0.length : Int)) = true := decide_eq_true c3
        clear c3
        by_cases c4 : 0 ≤ x6_1
        · rw [if_pos c4] at H
          have c4b0 : decide (0 ≤ x6_1) = true := decide_eq_true c4
          clear c4
          by_cases c5 : x5_1.length < 1759218604441
          · rw [if_pos c5] at H
            have LMc5 := Aside0.mk c5
            clear c5
            obtain ⟨y183, hy183⟩ : ∃ y_ : List (S40), y_ = (x5_1 ++ [(⟨wrap64 (a1 + x6_1), (rd_T40 l0 x6_1).f1, (rd_T40 l0 x6_1).f2, ([] : List (S83)), ([] : List (S86))⟩ : S40)]) := ⟨_, rfl⟩
            replace H : (chancelref06_Fork.l0 k1 l0 a1 y183 (wrap64 (x6_1 + 1))) = some r := by first | (rw [hy183]; with_reducible exact H) | (have H2_ := (Option.bind_some _ _).symm.trans H; rw [hy183]; with_reducible exact H2_) | (have H2_ := (Option.bind_some _ _).symm.trans H; with_reducible exact H2_) | with_reducible exact H | (rw [hy183]; exact H) | exact H
            have Ny183 := Aside0.mk hy183
            clear hy183
            have H' := Aside0.mk H
            clear H
            try go_wp2
            have n0_ := Aside0.mk (Kd.S_drew HO_5.out)
            have n1_ := Aside0.mk (below_drew1 HB.out)
            clear HO_5
            clear HB
            have HO_5 := n0_
            have HB := n1_
            clear n0_ n1_
            have p181 : 0 ≤ (x6_1 : Int) := of_decide_eq_true (by first | (with_reducible assumption) | assumption)
            have q181 : x6_1 < (l0.length : Int) := of_decide_eq_true (by first | (with_reducible assumption) | assumption)
            obtain ⟨ad181, A181_3, c181_3, A181_4, c181_4, e181, hx181_0, hx181_1, hx181_2, hx181_3, hx181_4, hl181_3, hi181_3, hl181_4, hi181_4⟩ := at_T40 HR0.out x6_1 p181 q181
            have hw181_4 := hx181_4
            have hw181_3 := hx181_3
            have hw181_2 := hx181_2
            have hw181_1 := hx181_1
            have hw181_0 := hx181_0
            cases e181
            replace hx181_0 := (HB.out.cell (World.block_lt_of_cell? w _ hx181_0)).trans hx181_0
            replace hx181_1 := (HB.out.cell (World.block_lt_of_cell? w _ hx181_1)).trans hx181_1
            replace hx181_2 := (HB.out.cell (World.block_lt_of_cell? w _ hx181_2)).trans hx181_2
            replace hx181_3 := (HB.out.cell (World.block_lt_of_cell? w _ hx181_3)).trans hx181_3
            replace hx181_4 := (HB.out.cell (World.block_lt_of_cell? w _ hx181_4)).trans hx181_4
            have HR181_3 := Aside0.mk hi181_3
            have HC181_3 := Aside0.mk hl181_3
            clear hi181_3 hl181_3
            have HR181_4 := Aside0.mk hi181_4
            have HC181_4 := Aside0.mk hl181_4
            clear hi181_4 hl181_4
            replace p181 := eq_true p181
            replace q181 := eq_true q181
            have p182 : 0 ≤ (x6_1 : Int) := of_decide_eq_true (by first | (with_reducible assumption) | assumption)
            have q182 : x6_1 < (l0.length : Int) := of_decide_eq_true (by first | (with_reducible assumption) | assumption)
            obtain ⟨ad182, A182_3, c182_3, A182_4, c182_4, e182, hx182_0, hx182_1, hx182_2, hx182_3, hx182_4, hl182_3, hi182_3, hl182_4, hi182_4⟩ := at_T40 HR0.out x6_1 p182 q182
            have hw182_4 := hx182_4
            have hw182_3 := hx182_3
            have hw182_2 := hx182_2
            have hw182_1 := hx182_1
            have hw182_0 := hx182_0
            obtain rfl : ad181 = ad182 := (by injection e182)
            replace hx182_0 := (HB.out.cell (World.block_lt_of_cell? w _ hx182_0)).trans hx182_0
            replace hx182_1 := (HB.out.cell (World.block_lt_of_cell? w _ hx182_1)).trans hx182_1
            replace hx182_2 := (HB.out.cell (World.block_lt_of_cell? w _ hx182_2)).trans hx182_2
            replace hx182_3 := (HB.out.cell (World.block_lt_of_cell? w _ hx182_3)).trans hx182_3
            replace hx182_4 := (HB.out.cell (World.block_lt_of_cell? w _ hx182_4)).trans hx182_4
            have HR182_3 := Aside0.mk hi182_3
            have HC182_3 := Aside0.mk hl182_3
            clear hi182_3 hl182_3
            have HR182_4 := Aside0.mk hi182_4
            have HC182_4 := Aside0.mk hl182_4
            clear hi182_4 hl182_4
            replace p182 := eq_true p182
            replace q182 := eq_true q182
            have ea_ := Option.some.inj (hx181_3.symm.trans hx182_3)
            injection ea_ with ea_ en_ ec_
            subst ea_
            subst ec_
            clear en_
            have ea_ := Option.some.inj (hx181_4.symm.trans hx182_4)
            injection ea_ with ea_ en_ ec_
            subst ea_
            subst ec_
            clear en_
            refine start_ (n := 18) (S := fun w' => w'.cell? (ad181.add ((x6_1).toNat * 5)) = some (.int .i64 ((rd_T40 l0 x6_1).f0)) ∧ w'.cell? ⟨(ad181.add ((x6_1).toNat * 5)).block, (ad181.add ((x6_1).toNat * 5)).off + 1, none⟩ = some (.int .i64 ((rd_T40 l0 x6_1).f1)) ∧ w'.cell? ⟨(ad181.add ((x6_1).toNat * 5)).block, (ad181.add ((x6_1).toNat * 5)).off + 2, none⟩ = some (.string ((rd_T40 l0 x6_1).f2)) ∧ w'.cell? ⟨(ad181.add ((x6_1).toNat * 5)).block, (ad181.add ((x6_1).toNat * 5)).off + 3, none⟩ = some (.slice A181_3 ((rd_T40 l0 x6_1).f3).length c181_3) ∧ w'.cell? ⟨(ad181.add ((x6_1).toNat * 5)).block, (ad181.add ((x6_1).toNat * 5)).off + 4, none⟩ = some (.slice A181_4 ((rd_T40 l0 x6_1).f4).length c181_4) ∧ w'.cell? (ad181.add ((x6_1).toNat * 5)) = some (.int .i64 ((rd_T40 l0 x6_1).f0)) ∧ w'.cell? ⟨(ad181.add ((x6_1).toNat * 5)).block, (ad181.add ((x6_1).toNat * 5)).off + 1, none⟩ = some (.int .i64 ((rd_T40 l0 x6_1).f1)) ∧ w'.cell? ⟨(ad181.add ((x6_1).toNat * 5)).block, (ad181.add ((x6_1).toNat * 5)).off + 2, none⟩ = some (.string ((rd_T40 l0 x6_1).f2)) ∧ w'.cell? ⟨(ad181.add ((x6_1).toNat * 5)).block, (ad181.add ((x6_1).toNat * 5)).off + 3, none⟩ = some (.slice A181_3 ((rd_T40 l0 x6_1).f3).length c181_3) ∧ w'.cell? ⟨(ad181.add ((x6_1).toNat * 5)).block, (ad181.add ((x6_1).toNat * 5)).off + 4, none⟩ = some (.slice A181_4 ((rd_T40 l0 x6_1).f4).length c181_4)) (ds := []) #[false, false, false, false, false, false, false, false, false, false, false, false, false, false, false, false, false, false] (by kernel_rfl) rfl rfl ⟨((HB.out.cell (World.block_lt_of_cell? w _ hw181_0)).trans hw181_0), ((HB.out.cell (World.block_lt_of_cell? w _ hw181_1)).trans hw181_1), ((HB.out.cell (World.block_lt_of_cell? w _ hw181_2)).trans hw181_2), ((HB.out.cell (World.block_lt_of_cell? w _ hw181_3)).trans hw181_3), ((HB.out.cell (World.block_lt_of_cell? w _ hw181_4)).trans hw181_4), ((HB.out.cell (World.block_lt_of_cell? w _ hw182_0)).trans hw182_0), ((HB.out.cell (World.block_lt_of_cell? w _ hw182_1)).trans hw182_1), ((HB.out.cell (World.block_lt_of_cell? w _ hw182_2)).trans hw182_2), ((HB.out.cell (World.block_lt_of_cell? w _ hw182_3)).trans hw182_3), ((HB.out.cell (World.block_lt_of_cell? w _ hw182_4)).trans hw182_4)⟩ (fun hHeld => ?_); refine with_tabW chancelref06_Fork.tab5 chancelref06_Fork.bits5 (fun HT_ HW_ => ?_)
            generalize wr.drew = w6 at HO_5 HB HR181_3 HR181_4 HR182_3 HR182_4 hx181_0 hx181_1 hx181_2 hx181_3 hx181_4 hx182_0 hx182_1 hx182_2 hx182_3 hx182_4 hHeld ⊢
            refine pure_ (i := 0) (N := some 13) (v := ?_) (a' := ?_) #[true, false, false, false, false, false, false, false, false, false, false, false, false, false, false, false, false, false] rfl rfl (any_of HT_.out (by kernel_rfl)) (fun _ _ _ h => h) (Or.inl ⟨by rfl, ?_⟩) ?_ ?_
            rotate_left
            · intro w'
              go_simp
              with_reducible rfl
            rotate_left
            · simp only [Act.put, List.setIfInBounds_toArray, List.set_cons_zero, List.set_cons_succ, i64_w, i32_w]
              rfl
            refine pure_ (i := 1) (N := some 14) (v := ?_) (a' := ?_) #[true, true, false, false, false, false, false, false, false, false, false, false, false, false, false, false, false, false] rfl rfl (any_of HT_.out (by kernel_rfl)) (fun _ _ _ h => h) (Or.inl ⟨by rfl, ?_⟩) ?_ ?_
            rotate_left
            · intro w'
              go_simp
              with_reducible rfl
            rotate_left
            · simp only [Act.put, List.setIfInBounds_toArray, List.set_cons_zero, List.set_cons_succ, i64_w, i32_w]
              rfl
            refine pure_ (i := 2) (N := some 15) (v := ?_) (a' := ?_) #[true, true, true, false, false, false, false, false, false, false, false, false, false, false, false, false, false, false] rfl rfl (any_of HT_.out (by kernel_rfl)) (fun _ _ _ h => h) (Or.inl ⟨by rfl, ?_⟩) ?_ ?_
            rotate_left
            · intro w'
              go_simp
              with_reducible rfl
            rotate_left
            · simp only [Act.put, List.setIfInBounds_toArray, List.set_cons_zero, List.set_cons_succ, i64_w, i32_w]
              rfl
            refine pure_ (i := 3) (N := some 16) (v := ?_) (a' := ?_) #[true, true, true, true, false, false, false, false, false, false, false, false, false, false, false, false, false, false] rfl rfl (any_of HT_.out (by kernel_rfl)) (fun _ _ _ h => h) (Or.inl ⟨by rfl, ?_⟩) ?_ ?_
            rotate_left
            · intro w'
              go_simp
              with_reducible rfl
            rotate_left
            · simp only [Act.put, List.setIfInBounds_toArray, List.set_cons_zero, List.set_cons_succ, i64_w, i32_w]
              rfl
            refine pure_ (i := 4) (N := some 17) (v := ?_) (a' := ?_) #[true, true, true, true, true, false, false, false, false, false, false, false, false, false, false, false, false, false] rfl rfl (any_of HT_.out (by kernel_rfl)) (fun _ _ _ h => h) (Or.inl ⟨by rfl, ?_⟩) ?_ ?_
            rotate_left
            · intro w'
              go_simp
              with_reducible rfl
            rotate_left
            · simp only [Act.put, List.setIfInBounds_toArray, List.set_cons_zero, List.set_cons_succ, i64_w, i32_w]
              rfl
            refine pure_ (i := 5) (N := some 18) (v := ?_) (a' := ?_) #[true, true, true, true, true, true, false, false, false, false, false, false, false, false, false, false, false, false] rfl rfl (any_of HT_.out (by kernel_rfl)) (fun _ _ _ h => h) (Or.inl ⟨by rfl, ?_⟩) ?_ ?_
            rotate_left
            · intro w'
              go_simp
              with_reducible rfl
            rotate_left
            · simp only [Act.put, List.setIfInBounds_toArray, List.set_cons_zero, List.set_cons_succ, i64_w, i32_w]
              rfl
            refine pure_ (i := 6) (N := some 19) (v := ?_) (a' := ?_) #[true, true, true, true, true, true, true, false, false, false, false, false, false, false, false, false, false, false] rfl rfl (any_of HT_.out (by kernel_rfl)) (fun _ _ _ h => h) (Or.inl ⟨by rfl, ?_⟩) ?_ ?_
            rotate_left
            · intro w'
              go_simp
              with_reducible rfl
            rotate_left
            · simp only [Act.put, List.setIfInBounds_toArray, List.set_cons_zero, List.set_cons_succ, i64_w, i32_w]
              rfl
            refine pure_ (i := 7) (N := some 20) (v := ?_) (a' := ?_) #[true, true, true, true, true, true, true, true, false, false, false, false, false, false, false, false, false, false] rfl rfl (any_of HT_.out (by kernel_rfl)) (fun _ _ _ h => h) (Or.inl ⟨by rfl, ?_⟩) ?_ ?_
            rotate_left
            · intro w'
              go_simp
              with_reducible rfl
            rotate_left
            · simp only [Act.put, List.setIfInBounds_toArray, List.set_cons_zero, List.set_cons_succ, i64_w, i32_w]
              rfl
            refine pure_ (i := 9) (N := some 22) (v := ?_) (a' := ?_) #[true, true, true, true, true, true, true, true, false, true, false, false, false, false, false, false, false, false] rfl rfl (any_of HT_.out (by kernel_rfl)) (fun _ _ _ h => h) (Or.inl ⟨by rfl, ?_⟩) ?_ ?_
            rotate_left
            · intro w'
              go_simp
              with_reducible rfl
            rotate_left
            · simp only [Act.put, List.setIfInBounds_toArray, List.set_cons_zero, List.set_cons_succ, i64_w, i32_w]
              rfl
            refine pure_ (i := 10) (N := some 23) (v := ?_) (a' := ?_) #[true, true, true, true, true, true, true, true, false, true, true, false, false, false, false, false, false, false] rfl rfl (any_of HT_.out (by kernel_rfl)) (fun _ _ _ h => h) (Or.inl ⟨by rfl, ?_⟩) ?_ ?_
            rotate_left
            · intro w'
              go_simp
              with_reducible rfl
            rotate_left
            · simp only [Act.put, List.setIfInBounds_toArray, List.set_cons_zero, List.set_cons_succ, i64_w, i32_w]
              rfl
            refine pure_ (i := 11) (N := some 24) (v := ?_) (a' := ?_) #[true, true, true, true, true, true, true, true, false, true, true, true, false, false, false, false, false, false] rfl rfl (any_of HT_.out (by kernel_rfl)) (fun _ _ _ h => h) (Or.inl ⟨by rfl, ?_⟩) ?_ ?_
            rotate_left
            · intro w'
              go_simp
              with_reducible rfl
            rotate_left
            · simp only [Act.put, List.setIfInBounds_toArray, List.set_cons_zero, List.set_cons_succ, i64_w, i32_w]
              rfl
            refine pure_ (i := 12) (N := some 25) (v := ?_) (a' := ?_) #[true, true, true, true, true, true, true, true, false, true, true, true, true, false, false, false, false, false] rfl rfl (any_of HT_.out (by kernel_rfl)) (fun _ _ _ h => h) (Or.inl ⟨by rfl, ?_⟩) ?_ ?_
            rotate_left
            · intro w'
              go_simp
              with_reducible rfl
            rotate_left
            · simp only [Act.put, List.setIfInBounds_toArray, List.set_cons_zero, List.set_cons_succ, i64_w, i32_w]
              rfl
            refine take_ (i := 8) (N := some 21) (v := ?_) (a' := ?_) #[true, true, true, true, true, true, true, true, true, true, true, true, true, false, false, false, false, false] rfl rfl (take_ofW HT_.out HW_.out (by kernel_rfl)) (fun _ _ _ h => h) (Or.inl ⟨by rfl, ?_⟩) hHeld ?_ ?_
            rotate_left
            · rintro w' ⟨s0, s1, s2, s3, s4, s5, s6, s7, s8, s9⟩
              go_simp
              with_reducible rfl
            rotate_left
            · simp only [Act.put, List.setIfInBounds_toArray, List.set_cons_zero, List.set_cons_succ, i64_w, i32_w]
              rfl
            refine take_ (i := 13) (N := some 26) (v := ?_) (a' := ?_) #[true, true, true, true, true, true, true, true, true, true, true, true, true, true, false, false, false, false] rfl rfl (take_ofW HT_.out HW_.out (by kernel_rfl)) (fun _ _ _ h => h) (Or.inl ⟨by rfl, ?_⟩) hHeld ?_ ?_
            rotate_left
            · rintro w' ⟨s0, s1, s2, s3, s4, s5, s6, s7, s8, s9⟩
              go_simp
              with_reducible rfl
            rotate_left
            · simp only [Act.put, List.setIfInBounds_toArray, List.set_cons_zero, List.set_cons_succ, i64_w, i32_w]
              rfl
            refine pure_ (i := 14) (N := some 27) (v := ?_) (a' := ?_) #[true, true, true, true, true, true, true, true, true, true, true, true, true, true, true, false, false, false] rfl rfl (any_of HT_.out (by kernel_rfl)) (fun _ _ _ h => h) (Or.inl ⟨by rfl, ?_⟩) ?_ ?_
            rotate_left
            · intro w'
              go_simp
              with_reducible rfl
            rotate_left
            · simp only [Act.put, List.setIfInBounds_toArray, List.set_cons_zero, List.set_cons_succ, i64_w, i32_w]
              rfl
            refine one_ (i := 15) (N := some 28) #[true, true, true, true, true, true, true, true, true, true, true, true, true, true, true, true, false, false] rfl rfl (one_of HT_.out (by kernel_rfl)) (by decide) (fun K hK => ?_)
            refine value_ (w1 := ?_) (v := ?_) (by rfl) rfl ?_ ?_
            rotate_left 2
            · go_simp
              constructor
              · rfl
              · rfl
            refine hK.out _ _ ⟨(World.cell?_alloc_lt _ _ _ (World.block_lt_of_cell? _ _ (((HB.out.cell (World.block_lt_of_cell? w _ hw181_0)).trans hw181_0)))).trans (((HB.out.cell (World.block_lt_of_cell? w _ hw181_0)).trans hw181_0)), (World.cell?_alloc_lt _ _ _ (World.block_lt_of_cell? _ _ (((HB.out.cell (World.block_lt_of_cell? w _ hw181_1)).trans hw181_1)))).trans (((HB.out.cell (World.block_lt_of_cell? w _ hw181_1)).trans hw181_1)), (World.cell?_alloc_lt _ _ _ (World.block_lt_of_cell? _ _ (((HB.out.cell (World.block_lt_of_cell? w _ hw181_2)).trans hw181_2)))).trans (((HB.out.cell (World.block_lt_of_cell? w _ hw181_2)).trans hw181_2)), (World.cell?_alloc_lt _ _ _ (World.block_lt_of_cell? _ _ (((HB.out.cell (World.block_lt_of_cell? w _ hw181_3)).trans hw181_3)))).trans (((HB.out.cell (World.block_lt_of_cell? w _ hw181_3)).trans hw181_3)), (World.cell?_alloc_lt _ _ _ (World.block_lt_of_cell? _ _ (((HB.out.cell (World.block_lt_of_cell? w _ hw181_4)).trans hw181_4)))).trans (((HB.out.cell (World.block_lt_of_cell? w _ hw181_4)).trans hw181_4)), (World.cell?_alloc_lt _ _ _ (World.block_lt_of_cell? _ _ (((HB.out.cell (World.block_lt_of_cell? w _ hw182_0)).trans hw182_0)))).trans (((HB.out.cell (World.block_lt_of_cell? w _ hw182_0)).trans hw182_0)), (World.cell?_alloc_lt _ _ _ (World.block_lt_of_cell? _ _ (((HB.out.cell (World.block_lt_of_cell? w _ hw182_1)).trans hw182_1)))).trans (((HB.out.cell (World.block_lt_of_cell? w _ hw182_1)).trans hw182_1)), (World.cell?_alloc_lt _ _ _ (World.block_lt_of_cell? _ _ (((HB.out.cell (World.block_lt_of_cell? w _ hw182_2)).trans hw182_2)))).trans (((HB.out.cell (World.block_lt_of_cell? w _ hw182_2)).trans hw182_2)), (World.cell?_alloc_lt _ _ _ (World.block_lt_of_cell? _ _ (((HB.out.cell (World.block_lt_of_cell? w _ hw182_3)).trans hw182_3)))).trans (((HB.out.cell (World.block_lt_of_cell? w _ hw182_3)).trans hw182_3)), (World.cell?_alloc_lt _ _ _ (World.block_lt_of_cell? _ _ (((HB.out.cell (World.block_lt_of_cell? w _ hw182_4)).trans hw182_4)))).trans (((HB.out.cell (World.block_lt_of_cell? w _ hw182_4)).trans hw182_4))⟩ (fun hHeld => ?_)
            clear hK K
            refine norm_ (a' := ?_) ?_ ?_
            rotate_left
            · show Act.put _ (some 28) _ = _
              simp only [Act.put, List.setIfInBounds_toArray, List.set_cons_zero, List.set_cons_succ, i64_w, i32_w]
              rfl
            refine one_ (i := 16) (N := some 29) #[true, true, true, true, true, true, true, true, true, true, true, true, true, true, true, true, true, false] rfl rfl (one_of HT_.out (by kernel_rfl)) (by decide) (fun K hK => ?_)
            refine Kd.S_append_step k40 (w0 := w) w.heap.size (by rfl) (.tmp 13) (.tmp 28) 22 40 (.agg #[(.int .i64 0), (.int .i64 0), (.string ⟨#[]⟩), (.slice none 0 0), (.slice none 0 0)]) 80 rfl Tryd.underlying22 info40 rfl (by decide) (by omega) u5 x5_1 (⟨wrap64 (a1 + x6_1), (rd_T40 l0 x6_1).f1, (rd_T40 l0 x6_1).f2, ([] : List (S83)), ([] : List (S86))⟩ : S40) [.int .i64 (wrap64 (a1 + x6_1)), .int .i64 ((rd_T40 l0 x6_1).f1), .string ((rd_T40 l0 x6_1).f2), .slice none 0 0, .slice none 0 0] (fun _ => True) (fun _ => False) rfl rfl ?aP (fun k_ hk_ => hk_.elim) ?aF ?aO ?aB ?aS ?aL ?_
            (case aP => exact k40_mkM _ _ _ (⟨wrap64 (a1 + x6_1), (rd_T40 l0 x6_1).f1, (rd_T40 l0 x6_1).f2, ([] : List (S83)), ([] : List (S86))⟩ : S40) (Kd.R_nil _ _ _ _ _) (Kd.R_nil _ _ _ _ _))
            (case aB => exact (by repeat (first | (with_reducible first | exact HB.out | apply below_alloc | apply pw_below_drewN | apply below_drew1) | exact HB.out)))
            (case aF => exact (fun _ _ => trivial))
            (case aO => exact (by (with_reducible repeat (first | apply Kd.S_alloc | apply Kd.S_drewN | apply Kd.S_drew)); exact Kd.S_mono HO_5.out (fun k_ hk => ⟨trivial, fun e_ => e_⟩)))
            (case aS => exact (below_size (by repeat (first | (with_reducible first | exact HB.out | apply below_alloc | apply pw_below_drewN | apply below_drew1) | exact HB.out))))
            (case aL => have := LMc5.out; omega)
            intro v184 w7 ho hb hg hat
            rw [← Ny183.out] at ho
            have n0_ := Aside0.mk (hb)
            have n1_ := Aside0.mk (ho)
            clear HB
            clear HO_5
            have HB := n0_
            have HO185 := n1_
            clear n0_ n1_
            clear ho hb hg hat
            refine hK.out _ _ ⟨((HB.out.cell (World.block_lt_of_cell? w _ hw181_0)).trans hw181_0), ((HB.out.cell (World.block_lt_of_cell? w _ hw181_1)).trans hw181_1), ((HB.out.cell (World.block_lt_of_cell? w _ hw181_2)).trans hw181_2), ((HB.out.cell (World.block_lt_of_cell? w _ hw181_3)).trans hw181_3), ((HB.out.cell (World.block_lt_of_cell? w _ hw181_4)).trans hw181_4), ((HB.out.cell (World.block_lt_of_cell? w _ hw182_0)).trans hw182_0), ((HB.out.cell (World.block_lt_of_cell? w _ hw182_1)).trans hw182_1), ((HB.out.cell (World.block_lt_of_cell? w _ hw182_2)).trans hw182_2), ((HB.out.cell (World.block_lt_of_cell? w _ hw182_3)).trans hw182_3), ((HB.out.cell (World.block_lt_of_cell? w _ hw182_4)).trans hw182_4)⟩ (fun hHeld => ?_)
            clear hK K
            refine norm_ (a' := ?_) ?_ ?_
            rotate_left
            · show Act.put _ (some 29) _ = _
              simp only [Act.put, List.setIfInBounds_toArray, List.set_cons_zero, List.set_cons_succ, i64_w, i32_w]
              rfl
            refine pure_ (i := 17) (N := some 5) (v := ?_) (a' := ?_) #[true, true, true, true, true, true, true, true, true, true, true, true, true, true, true, true, true, true] rfl rfl (any_of HT_.out (by kernel_rfl)) (fun _ _ _ h => h) (Or.inl ⟨by rfl, ?_⟩) ?_ ?_
            rotate_left
            · intro w'
              go_simp
              with_reducible rfl
            rotate_left
            · simp only [Act.put, List.setIfInBounds_toArray, List.set_cons_zero, List.set_cons_succ, i64_w, i32_w]
              rfl
            refine done_ (done_of HT_.out (by kernel_rfl)) ?_
            try go_wp2
            go_roundg k1
            case measure => have := HK1.out; omega
            case rel => exact ⟨(y183), (wrap64 (x6_1 + 1)), (by first | rfl | (simp; done) | (simp [*]; done)), H', ⟨by have := HK1.out; omega⟩, ⟨by (with_reducible repeat (first | apply Kd.S_alloc | apply Kd.S_drewN | apply Kd.S_drew)); exact HO185.out⟩, ⟨by repeat (first | (with_reducible first | exact HB.out | apply below_alloc | apply pw_below_drewN | apply below_drew1) | exact HB.out)⟩⟩
          · rw [if_neg c5] at H
            exact absurd H (by simp)
        · rw [if_neg c4] at H
          exact absurd H (by simp)
      · rw [if_neg c3] at H
        have c3b0 : decide (x6_1 < (l0.length : Int)) = false := decide_eq_false c3
        clear c3
        obtain rfl := Option.some.inj H
        go_wp2
        go_ret
        exact ⟨_, by first | rfl | (simp [errW_none, errW_some] <;> rfl) | (simp [*, errW_none, errW_some] <;> rfl), by (with_reducible repeat (first | apply Kd.S_alloc | apply Kd.S_drewN | apply Kd.S_drew)); exact HO_5.out, by repeat (first | (with_reducible first | exact HB.out | apply below_alloc | apply pw_below_drewN | apply below_drew1) | exact HB.out)⟩

end Go.Proofs.YtkkjebjlgcggcaaDoor.PSheetForks
