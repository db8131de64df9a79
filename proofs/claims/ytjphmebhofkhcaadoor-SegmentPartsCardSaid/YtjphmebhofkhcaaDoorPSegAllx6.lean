-- Written by a program of this session around the given print (and over contracts of this session): not checked by anybody but Lean.
import Derived.Test.YtjphmebhofkhcaaDoorPSegAllx0
namespace Go.Proofs.YtjphmebhofkhcaaDoor.PSegAll
open Go.RowKit Go.Proofs.YtjphmebhofkhcaaDoorW.PrintWords Go.Proofs.YtjphmebhofkhcaaDoorW.PrintLast Go.Proofs.YtjphmebhofkhcaaDoorW.PrintMore
attribute [local go_sem] max2_int min2_int max_two min_two max_three min_three max_four min_four   -- for this text's walks alone
set_option linter.unusedVariables false
set_option linter.unusedSimpArgs false

-- NOT PRINTED: function 11 (segment_Load)

/-! ### chancelref01_size: function 65 -/
mutual
def chancelref01_size.j2 : Nat → ByteArray → Int → Int → Int → Option (Int × Int)
 | 0, _, _, _, _ => none
 | k + 1, x0, x5, x6, x7 => if (x0.size : Int) < x5 then (some (1, 65533)) else (chancelref01_size.l0 k x0 x5 x6 x7 1)
def chancelref01_size.l0 : Nat → ByteArray → Int → Int → Int → Int → Option (Int × Int)
 | 0, _, _, _, _, _ => none
 | k + 1, x0, x5, x6, x7, x8 => if x8 < x5 then (if 0 ≤ x8 then (if x8 < (x0.size : Int) then (if (wrap64 (bt x0 x8)) < 128 then (some (1, 65533)) else (if (wrap64 (bt x0 x8)) ≥ 192 then (some (1, 65533)) else (chancelref01_size.l0 k x0 x5 x6 (wrap64 ((wrap64 ((wrap64 (x7 * 64)) + (wrap64 (bt x0 x8)))) - 128)) (wrap64 (x8 + 1))))) else (none)) else (none)) else (if x7 < x6 then (some (1, 65533)) else (if x7 > 1114111 then (some (1, 65533)) else (if x7 ≥ 55296 then (if x7 < 57344 then (some (1, 65533)) else (some (x5, wrap32 (x7)))) else (some (x5, wrap32 (x7))))))
def chancelref01_size.j0 : Nat → ByteArray → Int → Bool → Option (Int × Int)
 | 0, _, _, _ => none
 | k + 1, x0, x4, x18 => if x18 = true then (chancelref01_size.j2 k x0 2 128 (wrap64 (x4 - 192))) else (if x4 ≥ 224 then (chancelref01_size.j1 k x0 x4 (decide (x4 < 240))) else (chancelref01_size.j1 k x0 x4 false))
def chancelref01_size.j1 : Nat → ByteArray → Int → Bool → Option (Int × Int)
 | 0, _, _, _ => none
 | k + 1, x0, x4, x27 => if x27 = true then (chancelref01_size.j2 k x0 3 2048 (wrap64 (x4 - 224))) else (if x4 ≥ 240 then (if x4 < 248 then (chancelref01_size.j2 k x0 4 65536 (wrap64 (x4 - 240))) else (some (1, 65533))) else (some (1, 65533)))
end
def chancelref01_size.f (k : Nat) (a0 : ByteArray) : Option (Int × Int) := if 0 < (a0.size : Int) then (if (wrap64 (bt a0 0)) < 128 then (some (1, wrap32 (wrap64 (bt a0 0)))) else (if (wrap64 (bt a0 0)) ≥ 192 then (chancelref01_size.j0 k a0 (wrap64 (bt a0 0)) (decide ((wrap64 (bt a0 0)) < 224))) else (chancelref01_size.j0 k a0 (wrap64 (bt a0 0)) false))) else (none)
theorem chancelref01_size.mono_l : ∀ k, (∀ y0 y1 y2 y3, LeO (chancelref01_size.j2 k y0 y1 y2 y3) (chancelref01_size.j2 (k + 1) y0 y1 y2 y3)) ∧ (∀ y0 y1 y2 y3 y4, LeO (chancelref01_size.l0 k y0 y1 y2 y3 y4) (chancelref01_size.l0 (k + 1) y0 y1 y2 y3 y4)) ∧ (∀ y0 y1 y2, LeO (chancelref01_size.j0 k y0 y1 y2) (chancelref01_size.j0 (k + 1) y0 y1 y2)) ∧ (∀ y0 y1 y2, LeO (chancelref01_size.j1 k y0 y1 y2) (chancelref01_size.j1 (k + 1) y0 y1 y2))
 | 0 => ⟨fun _ _ _ _ r h => by simp [chancelref01_size.j2] at h, fun _ _ _ _ _ r h => by simp [chancelref01_size.l0] at h, fun _ _ _ r h => by simp [chancelref01_size.j0] at h, fun _ _ _ r h => by simp [chancelref01_size.j1] at h⟩
 | k + 1 => by
  obtain ⟨ih0, ih1, ih2, ih3⟩ := chancelref01_size.mono_l k
  refine ⟨?_, ?_, ?_, ?_⟩
  ·intro y0 y1 y2 y3
   unfold chancelref01_size.j2
   repeat' first
   | (with_reducible exact ih0 _ _ _ _)
   | (with_reducible exact ih1 _ _ _ _ _)
   | (with_reducible exact ih2 _ _ _)
   | (with_reducible exact ih3 _ _ _)
   | (with_reducible exact LeO.refl _)
   | (with_reducible exact LeO.none _)
   | (with_reducible refine LeO.ite ?_ ?_)
   | (with_reducible refine LeO.bind ?_ (fun _ => ?_))
   | exact ih0 _ _ _ _
   | exact ih1 _ _ _ _ _
   | exact ih2 _ _ _
   | exact ih3 _ _ _
   | exact LeO.none _
   | refine LeO.ite ?_ ?_
   | refine LeO.bind ?_ (fun _ => ?_)
  ·intro y0 y1 y2 y3 y4
   unfold chancelref01_size.l0
   repeat' first
   | (with_reducible exact ih0 _ _ _ _)
   | (with_reducible exact ih1 _ _ _ _ _)
   | (with_reducible exact ih2 _ _ _)
   | (with_reducible exact ih3 _ _ _)
   | (with_reducible exact LeO.refl _)
   | (with_reducible exact LeO.none _)
   | (with_reducible refine LeO.ite ?_ ?_)
   | (with_reducible refine LeO.bind ?_ (fun _ => ?_))
   | exact ih0 _ _ _ _
   | exact ih1 _ _ _ _ _
   | exact ih2 _ _ _
   | exact ih3 _ _ _
   | exact LeO.none _
   | refine LeO.ite ?_ ?_
   | refine LeO.bind ?_ (fun _ => ?_)
  ·intro y0 y1 y2
   unfold chancelref01_size.j0
   repeat' first
   | (with_reducible exact ih0 _ _ _ _)
   | (with_reducible exact ih1 _ _ _ _ _)
   | (with_reducible exact ih2 _ _ _)
   | (with_reducible exact ih3 _ _ _)
   | (with_reducible exact LeO.refl _)
   | (with_reducible exact LeO.none _)
   | (with_reducible refine LeO.ite ?_ ?_)
   | (with_reducible refine LeO.bind ?_ (fun _ => ?_))
   | exact ih0 _ _ _ _
   | exact ih1 _ _ _ _ _
   | exact ih2 _ _ _
   | exact ih3 _ _ _
   | exact LeO.none _
   | refine LeO.ite ?_ ?_
   | refine LeO.bind ?_ (fun _ => ?_)
  ·intro y0 y1 y2
   unfold chancelref01_size.j1
   repeat' first
   | (with_reducible exact ih0 _ _ _ _)
   | (with_reducible exact ih1 _ _ _ _ _)
   | (with_reducible exact ih2 _ _ _)
   | (with_reducible exact ih3 _ _ _)
   | (with_reducible exact LeO.refl _)
   | (with_reducible exact LeO.none _)
   | (with_reducible refine LeO.ite ?_ ?_)
   | (with_reducible refine LeO.bind ?_ (fun _ => ?_))
   | exact ih0 _ _ _ _
   | exact ih1 _ _ _ _ _
   | exact ih2 _ _ _
   | exact ih3 _ _ _
   | exact LeO.none _
   | refine LeO.ite ?_ ?_
   | refine LeO.bind ?_ (fun _ => ?_)
theorem chancelref01_size.mono : ∀ a0 k, LeO (chancelref01_size.f k a0) (chancelref01_size.f (k + 1) a0) := by
 intro a0 k
 obtain ⟨ih0, ih1, ih2, ih3⟩ := chancelref01_size.mono_l k
 unfold chancelref01_size.f
 repeat' first
   | (with_reducible exact ih0 _ _ _ _)
   | (with_reducible exact ih1 _ _ _ _ _)
   | (with_reducible exact ih2 _ _ _)
   | (with_reducible exact ih3 _ _ _)
   | (with_reducible exact LeO.refl _)
   | (with_reducible exact LeO.none _)
   | (with_reducible refine LeO.ite ?_ ?_)
   | (with_reducible refine LeO.bind ?_ (fun _ => ?_))
   | exact ih0 _ _ _ _
   | exact ih1 _ _ _ _ _
   | exact ih2 _ _ _
   | exact ih3 _ _ _
   | exact LeO.none _
   | refine LeO.ite ?_ ?_
   | refine LeO.bind ?_ (fun _ => ?_)
set_option maxHeartbeats 8000000 in
set_option maxRecDepth 100000 in
theorem chancelref01_size.calls (k : Nat) (a0 : ByteArray) (r1 : Int) (r2 : Int) (w : World) (h : chancelref01_size.f k a0 = some (r1, r2)) :
  Calls Tryd.prog 65 #[.string a0] w fun e w' => e = .returned (.tuple #[.int .i64 r1, .int .i32 r2]) ∧ Drawn0 w w' := by
 have H : (if 0 < (a0.size : Int) then (if (wrap64 (bt a0 0)) < 128 then (some (1, wrap32 (wrap64 (bt a0 0)))) else (if (wrap64 (bt a0 0)) ≥ 192 then (chancelref01_size.j0 k a0 (wrap64 (bt a0 0)) (decide ((wrap64 (bt a0 0)) < 224))) else (chancelref01_size.j0 k a0 (wrap64 (bt a0 0)) false))) else (none)) = some (r1, r2) := h
 clear h
 by_cases c2 : 0 < (a0.size : Int)
 ·rw [if_pos c2] at H
  have c2b0 : decide (0 < (a0.size : Int)) = true := decide_eq_true c2
  have c2b1 : decide (0 < a0.size) = true := decide_eq_true (by omega)
  clear c2
  have HC4 := Aside0.mk H
  clear H
  have p3 : 0 ≤ (0 : Int) := (by omega)
  have q3 : 0 < a0.size:=(by have : (0 : Int) < (a0.size : Int):=of_decide_eq_true (by first|(with_reducible assumption)|assumption);omega)
  have hx3 : ∀ h : 0 < a0.size, ((a0[0]'h).toNat : Int) = bt a0 0 := bt_at a0 0
  clear p3
  have qi3 : (0 < (a0.size : Int)) = True:=eq_true (of_decide_eq_true (by first|(with_reducible assumption)|assumption))
  replace q3 := eq_true q3
  go_enter Tryd.func65, Tryd.ntmps65
  go_upto_block 0 with (fail)
  go_cut [5, 6, 7] (fun v5 v6 v7 wc => ∃ (kq : Nat) (x5_3 : Int) (x6_3 : Int) (x7_3 : Int), v5 = .int .i64 x5_3 ∧ v6 = .int .i64 x6_3 ∧ v7 = .int .i64 x7_3 ∧ Aside0 (chancelref01_size.j2 kq a0 x5_3 x6_3 x7_3 = some (r1, r2)) ∧ Aside0 (kq ≤ k) ∧ Drawn0 w wc)
  case first =>
   have H := HC4.out
   clear HC4
   by_cases c5 : (wrap64 (bt a0 0)) < 128
   ·rw [if_pos c5] at H
    have c5b0 : decide ((wrap64 (bt a0 0)) < 128) = true := decide_eq_true c5
    clear c5
    (first | rw [c5b0] | (simp only [i64_w, i32_w]; rw [c5b0]) | skip)
    simp only [Option.some.injEq, Prod.mk.injEq] at H
    obtain ⟨rfl, rfl⟩ := H
    go_wp2
    go_ret2
    exact ⟨by first | rfl | (simp; done) | (simp [*]; done), by repeat (first | exact Drawn0.refl _ | apply Drawn0.step)⟩
   ·rw [if_neg c5] at H
    have c5b0 : decide ((wrap64 (bt a0 0)) < 128) = false := decide_eq_false c5
    clear c5
    (first | rw [c5b0] | (simp only [i64_w, i32_w]; rw [c5b0]) | skip)
    have HC6 := Aside0.mk H
    clear H
    go_upto_region 6 with (fail)
    go_cut [18] (fun v18 wc => ∃ (kq : Nat) (x18_5 : Bool), v18 = .bool x18_5 ∧ Aside0 (chancelref01_size.j0 kq a0 (wrap64 (bt a0 0)) x18_5 = some (r1, r2)) ∧ Aside0 (kq ≤ k) ∧ Drawn0 w wc)
    case first =>
     have H := HC6.out
     clear HC6
     by_cases c7 : (wrap64 (bt a0 0)) ≥ 192
     ·rw [if_pos c7] at H
      have c7b0 : decide (192 ≤ (wrap64 (bt a0 0))) = true := decide_eq_true c7
      clear c7
      (first | rw [c7b0] | (simp only [i64_w, i32_w]; rw [c7b0]) | skip)
      have H' := Aside0.mk H
      clear H
      go_wp2
      go_meet
      case rel => exact ⟨_, (decide ((wrap64 (bt a0 0)) < 224)), (by first | rfl | (simp; done) | (simp [*]; done)), H', ⟨by first | omega | exact Nat.le_refl _⟩, by repeat (first | exact Drawn0.refl _ | apply Drawn0.step)⟩
     ·rw [if_neg c7] at H
      have c7b0 : decide (192 ≤ (wrap64 (bt a0 0))) = false := decide_eq_false c7
      clear c7
      (first | rw [c7b0] | (simp only [i64_w, i32_w]; rw [c7b0]) | skip)
      have H' := Aside0.mk H
      clear H
      go_wp2
      go_meet
      case rel => exact ⟨_, (false), (by first | rfl | (simp; done) | (simp [*]; done)), H', ⟨by first | omega | exact Nat.le_refl _⟩, by repeat (first | exact Drawn0.refl _ | apply Drawn0.step)⟩
    case rest =>
     clear HC6
     try clear c2
     try clear c2b0
     try clear c2b1
     try clear p2
     try clear p3
     try clear q3
     try clear hx3
     try clear qi3
     try clear c5
     try clear c5b0
     try clear c6
     try clear p6
     try clear c7
     try clear c7b0
     try clear p3
     try clear q3
     obtain ⟨kq, x18_5, rfl, HA, HJ5, ⟨mc5, rfl⟩⟩ := hcut
     cases kq with
     | zero => exact absurd HA.out (by simp [chancelref01_size.j0])
     | succ kj5 =>
      have H := HA.out
      clear HA
      simp only [chancelref01_size.j0] at H
      by_cases c8 : x18_5 = true
      ·subst c8
       have H1 : (chancelref01_size.j2 kj5 a0 2 128 (wrap64 ((wrap64 (bt a0 0)) - 192))) = some (r1, r2) := by rw [if_pos rfl] at H; exact H
       clear H
       have H := H1
       clear H1
       have H' := Aside0.mk H
       clear H
       go_wp2
       go_meet
       case rel => exact ⟨_, (2), (128), (wrap64 ((wrap64 (bt a0 0)) - 192)), (by first | rfl | (simp; done) | (simp [*]; done)), (by first | rfl | (simp; done) | (simp [*]; done)), (by first | rfl | (simp; done) | (simp [*]; done)), H', ⟨by have := HJ5.out; first | omega | exact Nat.le_refl _⟩, by repeat (first | exact Drawn0.refl _ | apply Drawn0.step)⟩
      ·replace c8 := Bool.eq_false_iff.mpr c8
       subst c8
       have H1 : (if (wrap64 (bt a0 0)) ≥ 224 then (chancelref01_size.j1 kj5 a0 (wrap64 (bt a0 0)) (decide ((wrap64 (bt a0 0)) < 240))) else (chancelref01_size.j1 kj5 a0 (wrap64 (bt a0 0)) false)) = some (r1, r2) := by rw [if_neg (show ¬ (false = true) by decide)] at H; exact H
       clear H
       have H := H1
       clear H1
       have HC9 := Aside0.mk H
       clear H
       go_upto_region 8 with (fail)
       go_cut [27] (fun v27 wc => ∃ (kq : Nat) (x27_8 : Bool), v27 = .bool x27_8 ∧ Aside0 (chancelref01_size.j1 kq a0 (wrap64 (bt a0 0)) x27_8 = some (r1, r2)) ∧ Aside0 (kq ≤ kj5) ∧ Drawn0 w wc)
       case first =>
        have H := HC9.out
        clear HC9
        by_cases c10 : (wrap64 (bt a0 0)) ≥ 224
        ·rw [if_pos c10] at H
         have c10b0 : decide (224 ≤ (wrap64 (bt a0 0))) = true := decide_eq_true c10
         clear c10
         (first | rw [c10b0] | (simp only [i64_w, i32_w]; rw [c10b0]) | skip)
         have H' := Aside0.mk H
         clear H
         go_wp2
         go_meet
         case rel => exact ⟨_, (decide ((wrap64 (bt a0 0)) < 240)), (by first | rfl | (simp; done) | (simp [*]; done)), H', ⟨by have := HJ5.out; first | omega | exact Nat.le_refl _⟩, by repeat (first | exact Drawn0.refl _ | apply Drawn0.step)⟩
        ·rw [if_neg c10] at H
         have c10b0 : decide (224 ≤ (wrap64 (bt a0 0))) = false := decide_eq_false c10
         clear c10
         (first | rw [c10b0] | (simp only [i64_w, i32_w]; rw [c10b0]) | skip)
         have H' := Aside0.mk H
         clear H
         go_wp2
         go_meet
         case rel => exact ⟨_, (false), (by first | rfl | (simp; done) | (simp [*]; done)), H', ⟨by have := HJ5.out; first | omega | exact Nat.le_refl _⟩, by repeat (first | exact Drawn0.refl _ | apply Drawn0.step)⟩
       case rest =>
        clear HC9
        try clear c1
        try clear c2
        try clear c2b0
        try clear c2b1
        try clear p2
        try clear p3
        try clear q3
        try clear hx3
        try clear qi3
        try clear c5
        try clear c5b0
        try clear c6
        try clear p6
        try clear c7
        try clear c7b0
        try clear c8
        try clear c10
        try clear c10b0
        try clear p2
        try clear p3
        try clear p6
        try clear q3
        obtain ⟨kq, x27_8, rfl, HA, HJ8, ⟨mc8, rfl⟩⟩ := hcut
        cases kq with
        | zero => exact absurd HA.out (by simp [chancelref01_size.j1])
        | succ kj8 =>
         have H := HA.out
         clear HA
         simp only [chancelref01_size.j1] at H
         by_cases c11 : x27_8 = true
         ·subst c11
          have H1 : (chancelref01_size.j2 kj8 a0 3 2048 (wrap64 ((wrap64 (bt a0 0)) - 224))) = some (r1, r2) := by rw [if_pos rfl] at H; exact H
          clear H
          have H := H1
          clear H1
          have H' := Aside0.mk H
          clear H
          go_wp2
          go_meet
          case rel => exact ⟨_, (3), (2048), (wrap64 ((wrap64 (bt a0 0)) - 224)), (by first | rfl | (simp; done) | (simp [*]; done)), (by first | rfl | (simp; done) | (simp [*]; done)), (by first | rfl | (simp; done) | (simp [*]; done)), H', ⟨by have := HJ5.out; have := HJ8.out; first | omega | exact Nat.le_refl _⟩, by repeat (first | exact Drawn0.refl _ | apply Drawn0.step)⟩
         ·replace c11 := Bool.eq_false_iff.mpr c11
          subst c11
          have H1 : (if (wrap64 (bt a0 0)) ≥ 240 then (if (wrap64 (bt a0 0)) < 248 then (chancelref01_size.j2 kj8 a0 4 65536 (wrap64 ((wrap64 (bt a0 0)) - 240))) else (some (1, 65533))) else (some (1, 65533))) = some (r1, r2) := by rw [if_neg (show ¬ (false = true) by decide)] at H; exact H
          clear H
          have H := H1
          clear H1
          by_cases c12 : (wrap64 (bt a0 0)) ≥ 240
          ·rw [if_pos c12] at H
           have c12b0 : decide (240 ≤ (wrap64 (bt a0 0))) = true := decide_eq_true c12
           clear c12
           by_cases c13 : (wrap64 (bt a0 0)) < 248
           ·rw [if_pos c13] at H
            have c13b0 : decide ((wrap64 (bt a0 0)) < 248) = true := decide_eq_true c13
            clear c13
            have H' := Aside0.mk H
            clear H
            go_wp2
            go_meet
            case rel => exact ⟨_, (4), (65536), (wrap64 ((wrap64 (bt a0 0)) - 240)), (by first | rfl | (simp; done) | (simp [*]; done)), (by first | rfl | (simp; done) | (simp [*]; done)), (by first | rfl | (simp; done) | (simp [*]; done)), H', ⟨by have := HJ5.out; have := HJ8.out; first | omega | exact Nat.le_refl _⟩, by repeat (first | exact Drawn0.refl _ | apply Drawn0.step)⟩
           ·rw [if_neg c13] at H
            have c13b0 : decide ((wrap64 (bt a0 0)) < 248) = false := decide_eq_false c13
            clear c13
            simp only [Option.some.injEq, Prod.mk.injEq] at H
            obtain ⟨rfl, rfl⟩ := H
            go_wp2
            go_ret2
            exact ⟨by first | rfl | (simp; done) | (simp [*]; done), by repeat (first | exact Drawn0.refl _ | apply Drawn0.step)⟩
          ·rw [if_neg c12] at H
           have c12b0 : decide (240 ≤ (wrap64 (bt a0 0))) = false := decide_eq_false c12
           clear c12
           simp only [Option.some.injEq, Prod.mk.injEq] at H
           obtain ⟨rfl, rfl⟩ := H
           go_wp2
           go_ret2
           exact ⟨by first | rfl | (simp; done) | (simp [*]; done), by repeat (first | exact Drawn0.refl _ | apply Drawn0.step)⟩
  case rest =>
   clear HC4
   try clear c1
   try clear c2
   try clear c2b0
   try clear c2b1
   try clear p2
   try clear p3
   try clear q3
   try clear hx3
   try clear qi3
   try clear c5
   try clear c5b0
   try clear c6
   try clear p6
   try clear c7
   try clear c7b0
   try clear c8
   try clear c10
   try clear c10b0
   try clear c11
   try clear c12
   try clear c12b0
   try clear c13
   try clear c13b0
   try clear p2
   try clear p3
   try clear p6
   try clear q3
   obtain ⟨kq, x5_3, x6_3, x7_3, rfl, rfl, rfl, HA, HJ3, ⟨mc3, rfl⟩⟩ := hcut
   cases kq with
   | zero => exact absurd HA.out (by simp [chancelref01_size.j2])
   | succ kj3 =>
    have H := HA.out
    clear HA
    simp only [chancelref01_size.j2] at H
    by_cases c14 : (a0.size : Int) < x5_3
    ·rw [if_pos c14] at H
     have c14b0 : decide ((a0.size : Int) < x5_3) = true := decide_eq_true c14
     clear c14
     simp only [Option.some.injEq, Prod.mk.injEq] at H
     obtain ⟨rfl, rfl⟩ := H
     go_wp2
     go_ret2
     exact ⟨by first | rfl | (simp; done) | (simp [*]; done), by repeat (first | exact Drawn0.refl _ | apply Drawn0.step)⟩
    ·rw [if_neg c14] at H
     have c14b0 : decide ((a0.size : Int) < x5_3) = false := decide_eq_false c14
     clear c14
     have H' := Aside0.mk H
     clear H
     go_wp2
     go_loopg [7, 8] kj3 (fun kq v7 v8 w' => ∃ (x7_2 : Int) (x8_2 : Int), v7 = .int .i64 x7_2 ∧ v8 = .int .i64 x8_2 ∧ Aside0 (chancelref01_size.l0 kq a0 x5_3 x6_3 x7_2 x8_2 = some (r1, r2)) ∧ Aside0 (kq ≤ kj3) ∧ Drawn0 w w')
     case atStart => exact ⟨(x7_3), (1), (by first | rfl | (simp; done) | (simp [*]; done)), (by first | rfl | (simp; done) | (simp [*]; done)), H', ⟨Nat.le_refl _⟩, by repeat (first | exact Drawn0.refl _ | apply Drawn0.step)⟩
     case round =>
      clear H'
      try clear c1
      try clear c2
      try clear c2b0
      try clear c2b1
      try clear p2
      try clear c3
      try clear p3
      try clear q3
      try clear hx3
      try clear qi3
      try clear c5
      try clear c5b0
      try clear c6
      try clear p6
      try clear c7
      try clear c7b0
      try clear c8
      try clear c10
      try clear c10b0
      try clear c11
      try clear c12
      try clear c12b0
      try clear c13
      try clear c13b0
      try clear c14
      try clear c14b0
      try clear p2
      try clear p3
      try clear p6
      try clear q3
      obtain ⟨x7_2, x8_2, rfl, rfl, HA, HK2, ⟨m2, rfl⟩⟩ := hrel
      cases gk with
      | zero => exact absurd HA.out (by simp [chancelref01_size.l0])
      | succ k2 =>
       have H := HA.out
       clear HA
       simp only [chancelref01_size.l0] at H
       by_cases c15 : x8_2 < x5_3
       ·rw [if_pos c15] at H
        have c15b0 : decide (x8_2 < x5_3) = true := decide_eq_true c15
        clear c15
        by_cases c16 : 0 ≤ x8_2
        ·rw [if_pos c16] at H
         have c16b0 : decide (0 ≤ x8_2) = true := decide_eq_true c16
         clear c16
         by_cases c17 : x8_2 < (a0.size : Int)
         ·rw [if_pos c17] at H
          have c17b0 : decide (x8_2 < (a0.size : Int)) = true := decide_eq_true c17
          clear c17
          by_cases c19 : (wrap64 (bt a0 x8_2)) < 128
          ·rw [if_pos c19] at H
           have c19b0 : decide ((wrap64 (bt a0 x8_2)) < 128) = true := decide_eq_true c19
           clear c19
           simp only [Option.some.injEq, Prod.mk.injEq] at H
           obtain ⟨rfl, rfl⟩ := H
           have p18 : 0 ≤ (x8_2 : Int):=of_decide_eq_true (by first|(with_reducible assumption)|assumption)
           have q18 : x8_2 < (a0.size : Int):=of_decide_eq_true (by first|(with_reducible assumption)|assumption)
           have hx18 := bt_at a0 x8_2
           replace p18 := eq_true p18
           replace q18 := eq_true q18
           go_wp2
           go_ret2
           exact ⟨by first | rfl | (simp; done) | (simp [*]; done), by repeat (first | exact Drawn0.refl _ | apply Drawn0.step)⟩
          ·rw [if_neg c19] at H
           have c19b0 : decide ((wrap64 (bt a0 x8_2)) < 128) = false := decide_eq_false c19
           clear c19
           by_cases c20 : (wrap64 (bt a0 x8_2)) ≥ 192
           ·rw [if_pos c20] at H
            have c20b0 : decide (192 ≤ (wrap64 (bt a0 x8_2))) = true := decide_eq_true c20
            clear c20
            simp only [Option.some.injEq, Prod.mk.injEq] at H
            obtain ⟨rfl, rfl⟩ := H
            have p18 : 0 ≤ (x8_2 : Int):=of_decide_eq_true (by first|(with_reducible assumption)|assumption)
            have q18 : x8_2 < (a0.size : Int):=of_decide_eq_true (by first|(with_reducible assumption)|assumption)
            have hx18 := bt_at a0 x8_2
            replace p18 := eq_true p18
            replace q18 := eq_true q18
            go_wp2
            go_ret2
            exact ⟨by first | rfl | (simp; done) | (simp [*]; done), by repeat (first | exact Drawn0.refl _ | apply Drawn0.step)⟩
           ·rw [if_neg c20] at H
            have c20b0 : decide (192 ≤ (wrap64 (bt a0 x8_2))) = false := decide_eq_false c20
            clear c20
            have H' := Aside0.mk H
            clear H
            have p18 : 0 ≤ (x8_2 : Int):=of_decide_eq_true (by first|(with_reducible assumption)|assumption)
            have q18 : x8_2 < (a0.size : Int):=of_decide_eq_true (by first|(with_reducible assumption)|assumption)
            have hx18 := bt_at a0 x8_2
            replace p18 := eq_true p18
            replace q18 := eq_true q18
            go_wp2
            go_roundg k2
            case measure => have := HJ3.out; have := HK2.out; omega
            case rel => exact ⟨(wrap64 ((wrap64 ((wrap64 (x7_2 * 64)) + (wrap64 (bt a0 x8_2)))) - 128)), (wrap64 (x8_2 + 1)), (by first | rfl | (simp; done) | (simp [*]; done)), (by first | rfl | (simp; done) | (simp [*]; done)), H', ⟨by have := HJ3.out; have := HK2.out; omega⟩, by repeat (first | exact Drawn0.refl _ | apply Drawn0.step)⟩
         ·rw [if_neg c17] at H
          exact absurd H (by simp)
        ·rw [if_neg c16] at H
         exact absurd H (by simp)
       ·rw [if_neg c15] at H
        have c15b0 : decide (x8_2 < x5_3) = false := decide_eq_false c15
        clear c15
        by_cases c21 : x7_2 < x6_3
        ·rw [if_pos c21] at H
         have c21b0 : decide (x7_2 < x6_3) = true := decide_eq_true c21
         clear c21
         simp only [Option.some.injEq, Prod.mk.injEq] at H
         obtain ⟨rfl, rfl⟩ := H
         go_wp2
         go_ret2
         exact ⟨by first | rfl | (simp; done) | (simp [*]; done), by repeat (first | exact Drawn0.refl _ | apply Drawn0.step)⟩
        ·rw [if_neg c21] at H
         have c21b0 : decide (x7_2 < x6_3) = false := decide_eq_false c21
         clear c21
         by_cases c22 : x7_2 > 1114111
         ·rw [if_pos c22] at H
          have c22b0 : decide (1114111 < x7_2) = true := decide_eq_true c22
          clear c22
          simp only [Option.some.injEq, Prod.mk.injEq] at H
          obtain ⟨rfl, rfl⟩ := H
          go_wp2
          go_ret2
          exact ⟨by first | rfl | (simp; done) | (simp [*]; done), by repeat (first | exact Drawn0.refl _ | apply Drawn0.step)⟩
         ·rw [if_neg c22] at H
          have c22b0 : decide (1114111 < x7_2) = false := decide_eq_false c22
          clear c22
          by_cases c23 : x7_2 ≥ 55296
          ·rw [if_pos c23] at H
           have c23b0 : decide (55296 ≤ x7_2) = true := decide_eq_true c23
           clear c23
           by_cases c24 : x7_2 < 57344
           ·rw [if_pos c24] at H
            have c24b0 : decide (x7_2 < 57344) = true := decide_eq_true c24
            clear c24
            simp only [Option.some.injEq, Prod.mk.injEq] at H
            obtain ⟨rfl, rfl⟩ := H
            go_wp2
            go_ret2
            exact ⟨by first | rfl | (simp; done) | (simp [*]; done), by repeat (first | exact Drawn0.refl _ | apply Drawn0.step)⟩
           ·rw [if_neg c24] at H
            have c24b0 : decide (x7_2 < 57344) = false := decide_eq_false c24
            clear c24
            simp only [Option.some.injEq, Prod.mk.injEq] at H
            obtain ⟨rfl, rfl⟩ := H
            go_wp2
            go_ret2
            exact ⟨by first | rfl | (simp; done) | (simp [*]; done), by repeat (first | exact Drawn0.refl _ | apply Drawn0.step)⟩
          ·rw [if_neg c23] at H
           have c23b0 : decide (55296 ≤ x7_2) = false := decide_eq_false c23
           clear c23
           simp only [Option.some.injEq, Prod.mk.injEq] at H
           obtain ⟨rfl, rfl⟩ := H
           go_wp2
           go_ret2
           exact ⟨by first | rfl | (simp; done) | (simp [*]; done), by repeat (first | exact Drawn0.refl _ | apply Drawn0.step)⟩
 ·rw [if_neg c2] at H
  exact absurd H (by simp)

/-! ### chancelref01_Right: function 37 -/
def chancelref01_Right.l0 : Nat → ByteArray → Option (Bool)
 | 0, _ => none
 | k + 1, x0 => if x0.toList = ([] : List UInt8) then (some true) else ((chancelref01_size.f k x0).bind fun bt167 => (if bt167.1 = 1 then (if bt167.2 = 65533 then (some false) else (if 0 ≤ bt167.1 then (if bt167.1 ≤ (x0.size : Int) then (chancelref01_Right.l0 k (x0.extract (bt167.1 : Int).toNat x0.size)) else (none)) else (none))) else (if 0 ≤ bt167.1 then (if bt167.1 ≤ (x0.size : Int) then (chancelref01_Right.l0 k (x0.extract (bt167.1 : Int).toNat x0.size)) else (none)) else (none))))
def chancelref01_Right.f (k : Nat) (a0 : ByteArray) : Option (Bool) := chancelref01_Right.l0 k a0
theorem chancelref01_Right.mono_l : ∀ k, (∀ y0, LeO (chancelref01_Right.l0 k y0) (chancelref01_Right.l0 (k + 1) y0))
 | 0 => fun _ r h => by simp [chancelref01_Right.l0] at h
 | k + 1 => by
  have ih0 := chancelref01_Right.mono_l k
  ·intro y0
   unfold chancelref01_Right.l0
   repeat' first
   | (with_reducible exact ih0 _)
   | (with_reducible exact chancelref01_size.mono _ _)
   | (with_reducible exact LeO.refl _)
   | (with_reducible exact LeO.none _)
   | (with_reducible refine LeO.ite ?_ ?_)
   | (with_reducible refine LeO.bind ?_ (fun _ => ?_))
   | exact ih0 _
   | exact chancelref01_size.mono _ _
   | exact LeO.none _
   | refine LeO.ite ?_ ?_
   | refine LeO.bind ?_ (fun _ => ?_)
theorem chancelref01_Right.mono : ∀ a0 k, LeO (chancelref01_Right.f k a0) (chancelref01_Right.f (k + 1) a0) := by
 intro a0 k
 have ih0 := chancelref01_Right.mono_l k
 unfold chancelref01_Right.f
 repeat' first
   | (with_reducible exact ih0 _)
   | (with_reducible exact chancelref01_size.mono _ _)
   | (with_reducible exact LeO.refl _)
   | (with_reducible exact LeO.none _)
   | (with_reducible refine LeO.ite ?_ ?_)
   | (with_reducible refine LeO.bind ?_ (fun _ => ?_))
   | exact ih0 _
   | exact chancelref01_size.mono _ _
   | exact LeO.none _
   | refine LeO.ite ?_ ?_
   | refine LeO.bind ?_ (fun _ => ?_)
set_option maxHeartbeats 8000000 in
set_option maxRecDepth 100000 in
theorem chancelref01_Right.calls (k : Nat) (a0 : ByteArray) (r : Bool) (w : World) (h : chancelref01_Right.f k a0 = some r) :
  Calls Tryd.prog 37 #[.string a0] w fun e w' => e = .returned (.bool r) ∧ Drawn0 w w' := by
 have H : (chancelref01_Right.l0 k a0) = some r := h
 clear h
 have H' := Aside0.mk H
 clear H
 go_enter Tryd.func37, Tryd.ntmps37
 go_wp2
 go_loopg [0] k (fun kq v0 w' => ∃ (x0_1 : ByteArray), v0 = .string x0_1 ∧ Aside0 (chancelref01_Right.l0 kq x0_1 = some r) ∧ Aside0 (kq ≤ k) ∧ Drawn0 w w')
 case atStart => exact ⟨(a0), (by first | rfl | (simp; done) | (simp [*]; done)), H', ⟨Nat.le_refl _⟩, by repeat (first | exact Drawn0.refl _ | apply Drawn0.step)⟩
 case round =>
  clear H'
  obtain ⟨x0_1, rfl, HA, HK1, ⟨m1, rfl⟩⟩ := hrel
  cases gk with
  | zero => exact absurd HA.out (by simp [chancelref01_Right.l0])
  | succ k1 =>
   have H := HA.out
   clear HA
   simp only [chancelref01_Right.l0] at H
   by_cases c2 : x0_1.toList = ([] : List UInt8)
   ·rw [if_pos c2] at H
    have c2b0 : (x0_1.toList == ([] : List UInt8)) = true := beq_iff_eq.mpr c2
    have c2b1 : (x0_1.toList != ([] : List UInt8)) = false := bne_eq_false_iff_eq.mpr c2
    clear c2
    obtain rfl := Option.some.inj H
    go_wp2
    go_ret
    exact ⟨by first | rfl | (simp; done) | (simp [*]; done), by repeat (first | exact Drawn0.refl _ | apply Drawn0.step)⟩
   ·rw [if_neg c2] at H
    have c2b0 : (x0_1.toList == ([] : List UInt8)) = false := beq_eq_false_iff_ne.mpr c2
    have c2b1 : (x0_1.toList != ([] : List UInt8)) = true := bne_iff_ne.mpr c2
    replace H := Option.bind_eq_some_iff.mp H
    obtain ⟨⟨t167, t168⟩, A30, H⟩ := H
    replace H : (if t167 = 1 then (if t168 = 65533 then (some false) else (if 0 ≤ t167 then (if t167 ≤ (x0_1.size : Int) then (chancelref01_Right.l0 k1 (x0_1.extract (t167 : Int).toNat x0_1.size)) else (none)) else (none))) else (if 0 ≤ t167 then (if t167 ≤ (x0_1.size : Int) then (chancelref01_Right.l0 k1 (x0_1.extract (t167 : Int).toNat x0_1.size)) else (none)) else (none))) = some r := H
    have A3 := Aside0.mk A30
    clear A30
    by_cases c4 : t167 = 1
    ·rw [if_pos c4] at H
     have c4b0 : (t167 == 1) = true := beq_iff_eq.mpr c4
     have c4b1 : (t167 != 1) = false := bne_eq_false_iff_eq.mpr c4
     clear c4
     by_cases c5 : t168 = 65533
     ·rw [if_pos c5] at H
      have c5b0 : (t168 == 65533) = true := beq_iff_eq.mpr c5
      have c5b1 : (t168 != 65533) = false := bne_eq_false_iff_eq.mpr c5
      clear c5
      obtain rfl := Option.some.inj H
      go_wp2_with (first|((with_reducible refine gate_callee (f:=65) rfl ?_);refine goesL_ (some 9) rfl rfl Tryd.func65 (by kernel_rfl) rfl #[.string x0_1] rfl (by (try simp only [List.map_toArray, List.map_cons, List.map_nil]);first|done|rfl|(simp only [List.length_drop, List.length_take];rfl)) ?_;(with_reducible refine (chancelref01_size.calls k1 x0_1 t167 t168 _ A3.out).mono ?_);rintro e w' ⟨rfl, ⟨nd, rfl⟩⟩;refine ⟨_, rfl, ?_⟩))
      go_ret
      exact ⟨by first | rfl | (simp; done) | (simp [*]; done), by repeat (first | exact Drawn0.refl _ | apply Drawn0.step)⟩
     ·rw [if_neg c5] at H
      have c5b0 : (t168 == 65533) = false := beq_eq_false_iff_ne.mpr c5
      have c5b1 : (t168 != 65533) = true := bne_iff_ne.mpr c5
      by_cases c6 : 0 ≤ t167
      ·rw [if_pos c6] at H
       have c6b0 := eq_true c6
       have c6b1 : decide (0 ≤ t167) = true := decide_eq_true c6
       clear c6
       by_cases c7 : t167 ≤ (x0_1.size : Int)
       ·rw [if_pos c7] at H
        have c7b0 := eq_true c7
        have c7b1 : decide (t167 ≤ (x0_1.size : Int)) = true := decide_eq_true c7
        clear c7
        have H' := Aside0.mk H
        clear H
        go_wp2_with (first|((with_reducible refine gate_callee (f:=65) rfl ?_);refine goesL_ (some 9) rfl rfl Tryd.func65 (by kernel_rfl) rfl #[.string x0_1] rfl (by (try simp only [List.map_toArray, List.map_cons, List.map_nil]);first|done|rfl|(simp only [List.length_drop, List.length_take];rfl)) ?_;(with_reducible refine (chancelref01_size.calls k1 x0_1 t167 t168 _ A3.out).mono ?_);rintro e w' ⟨rfl, ⟨nd, rfl⟩⟩;refine ⟨_, rfl, ?_⟩))
        go_roundg k1
        case measure => have := HK1.out; omega
        case rel => exact ⟨(x0_1.extract (t167 : Int).toNat x0_1.size), (by first | rfl | (simp; done) | (simp [*]; done)), H', ⟨by have := HK1.out; omega⟩, by repeat (first | exact Drawn0.refl _ | apply Drawn0.step)⟩
       ·rw [if_neg c7] at H
        exact absurd H (by simp)
      ·rw [if_neg c6] at H
       exact absurd H (by simp)
    ·rw [if_neg c4] at H
     have c4b0 : (t167 == 1) = false := beq_eq_false_iff_ne.mpr c4
     have c4b1 : (t167 != 1) = true := bne_iff_ne.mpr c4
     by_cases c8 : 0 ≤ t167
     ·rw [if_pos c8] at H
      have c8b0 := eq_true c8
      have c8b1 : decide (0 ≤ t167) = true := decide_eq_true c8
      clear c8
      by_cases c9 : t167 ≤ (x0_1.size : Int)
      ·rw [if_pos c9] at H
       have c9b0 := eq_true c9
       have c9b1 : decide (t167 ≤ (x0_1.size : Int)) = true := decide_eq_true c9
       clear c9
       have H' := Aside0.mk H
       clear H
       go_wp2_with (first|((with_reducible refine gate_callee (f:=65) rfl ?_);refine goesL_ (some 9) rfl rfl Tryd.func65 (by kernel_rfl) rfl #[.string x0_1] rfl (by (try simp only [List.map_toArray, List.map_cons, List.map_nil]);first|done|rfl|(simp only [List.length_drop, List.length_take];rfl)) ?_;(with_reducible refine (chancelref01_size.calls k1 x0_1 t167 t168 _ A3.out).mono ?_);rintro e w' ⟨rfl, ⟨nd, rfl⟩⟩;refine ⟨_, rfl, ?_⟩))
       go_roundg k1
       case measure => have := HK1.out; omega
       case rel => exact ⟨(x0_1.extract (t167 : Int).toNat x0_1.size), (by first | rfl | (simp; done) | (simp [*]; done)), H', ⟨by have := HK1.out; omega⟩, by repeat (first | exact Drawn0.refl _ | apply Drawn0.step)⟩
      ·rw [if_neg c9] at H
       exact absurd H (by simp)
     ·rw [if_neg c8] at H
      exact absurd H (by simp)

end Go.Proofs.YtjphmebhofkhcaaDoor.PSegAll
