-- PRINTED BY print.sh 35421559b90ae4d0a3588c463048766b98c2df88dd9212a6774a882060cdf62d: not written by this session
import Derived.Test.YtkkjebjlgcggcaaDoorPSheetForksx0
import Derived.Test.YtkkjebjlgcggcaaDoorPSheetForksx5
namespace Go.Proofs.YtkkjebjlgcggcaaDoor.PSheetForks
open Go.RowKit Go.Proofs.YtkkjebjlgcggcaaDoorW.PrintWords Go.Proofs.YtkkjebjlgcggcaaDoorW.PrintLast Go.Proofs.YtkkjebjlgcggcaaDoorW.PrintMore
attribute [local go_sem] max2_int min2_int max_two min_two max_three min_three max_four min_four   -- for this text's walks alone
set_option linter.unusedVariables false
set_option linter.unusedSimpArgs false

/-! ### chancelref01_Right: function 40 -/
def chancelref01_Right.l0 : Nat → ByteArray → Option (Bool)
  | 0, _ => none
  | k + 1, x0 => if x0.toList = ([] : List UInt8) then (some true) else ((chancelref01_size.f k x0).bind fun bt135 => (if bt135.1 = 1 then (if bt135.2 = 65533 then (some false) else (if 0 ≤ bt135.1 then (if bt135.1 ≤ (x0.size : Int) then (chancelref01_Right.l0 k (x0.extract (bt135.1 : Int).toNat x0.size)) else (none)) else (none))) else (if 0 ≤ bt135.1 then (if bt135.1 ≤ (x0.size : Int) then (chancelref01_Right.l0 k (x0.extract (bt135.1 : Int).toNat x0.size)) else (none)) else (none))))
def chancelref01_Right.f (k : Nat) (a0 : ByteArray) : Option (Bool) := chancelref01_Right.l0 k a0
theorem chancelref01_Right.mono_l : ∀ k, (∀ y0, LeO (chancelref01_Right.l0 k y0) (chancelref01_Right.l0 (k + 1) y0))
  | 0 => fun _ r h => by simp [chancelref01_Right.l0] at h
  | k + 1 => by
    have ih0 := chancelref01_Right.mono_l k
    · intro y0
      unfold chancelref01_Right.l0
      repeat' first
      | (with_reducible exact ih0 _)
      | (with_reducible exact chancelref01_size.mono _ _)
      | (with_reducible exact LeO.refl _)
      | (with_reducible exact LeO.none _)
      | (with_reducible refine LeO.ite ?_ ?_)
      | (with_reducible refine LeO.bind ?_ (fun _ => ?_))
      | exact ih0 _
      | exact chancelref01_size.mono _ _
      | exact LeO.none _
      | refine LeO.ite ?_ ?_
      | refine LeO.bind ?_ (fun _ => ?_)
theorem chancelref01_Right.mono : ∀ a0 k, LeO (chancelref01_Right.f k a0) (chancelref01_Right.f (k + 1) a0) := by
  intro a0 k
  have ih0 := chancelref01_Right.mono_l k
  unfold chancelref01_Right.f
  repeat' first
      | (with_reducible exact ih0 _)
      | (with_reducible exact chancelref01_size.mono _ _)
      | (with_reducible exact LeO.refl _)
      | (with_reducible exact LeO.none _)
      | (with_reducible refine LeO.ite ?_ ?_)
      | (with_reducible refine LeO.bind ?_ (fun _ => ?_))
      | exact ih0 _
      | exact chancelref01_size.mono _ _
      | exact LeO.none _
      | refine LeO.ite ?_ ?_
      | refine LeO.bind ?_ (fun _ => ?_)
set_option maxHeartbeats 8000000 in
set_option maxRecDepth 100000 in
theorem chancelref01_Right.calls (k : Nat) (a0 : ByteArray) (r : Bool) (w : World) (h : chancelref01_Right.f k a0 = some r) :
    Calls Tryd.prog 40 #[.string a0] w fun e w' => e = .returned (.bool r) ∧ Drawn0 w w' := by
  have H : (chancelref01_Right.l0 k a0) = some r := h
  clear h
  have H' := Aside0.mk H
  clear H
  go_enter Tryd.func40, Tryd.ntmps40
  go_wp2
  go_loopg [0] k (fun kq v0 w' => ∃ (x0_1 : ByteArray), v0 = .string x0_1 ∧ Aside0 (chancelref01_Right.l0 kq x0_1 = some r) ∧ Aside0 (kq ≤ k) ∧ Drawn0 w w')
  case atStart => exact ⟨(a0), (by first | rfl | (simp; done) | (simp [*]; done)), H', ⟨Nat.le_refl _⟩, by repeat (first | exact Drawn0.refl _ | apply Drawn0.step)⟩
  case round =>
    clear H'
    obtain ⟨x0_1, rfl, HA, HK1, ⟨m1, rfl⟩⟩ := hrel
    cases gk with
    | zero => exact absurd HA.out (by simp [chancelref01_Right.l0])
    | succ k1 =>
      have H := HA.out
      clear HA
      simp only [chancelref01_Right.l0] at H
      by_cases c2 : x0_1.toList = ([] : List UInt8)
      · rw [if_pos c2] at H
        have c2b0 : (x0_1.toList == ([] : List UInt8)) = true := beq_iff_eq.mpr c2
        have c2b1 : (x0_1.toList != ([] : List UInt8)) = false := bne_eq_false_iff_eq.mpr c2
        clear c2
        obtain rfl := Option.some.inj H
        go_wp2
        go_ret
        exact ⟨by first | rfl | (simp; done) | (simp [*]; done), by repeat (first | exact Drawn0.refl _ | apply Drawn0.step)⟩
      · rw [if_neg c2] at H
        have c2b0 : (x0_1.toList == ([] : List UInt8)) = false := beq_eq_false_iff_ne.mpr c2
        have c2b1 : (x0_1.toList != ([] : List UInt8)) = true := bne_iff_ne.mpr c2
        replace H := Option.bind_eq_some_iff.mp H
        obtain ⟨⟨t135, t136⟩, A30, H⟩ := H
        replace H : (if t135 = 1 then (if t136 = 65533 then (some false) else (if 0 ≤ t135 then (if t135 ≤ (x0_1.size : Int) then (chancelref01_Right.l0 k1 (x0_1.extract (t135 : Int).toNat x0_1.size)) else (none)) else (none))) else (if 0 ≤ t135 then (if t135 ≤ (x0_1.size : Int) then (chancelref01_Right.l0 k1 (x0_1.extract (t135 : Int).toNat x0_1.size)) else (none)) else (none))) = some r := H
        have A3 := Aside0.mk A30
        clear A30
        by_cases c4 : t135 = 1
        · rw [if_pos c4] at H
          have c4b0 : (t135 == 1) = true := beq_iff_eq.mpr c4
          have c4b1 : (t135 != 1) = false := bne_eq_false_iff_eq.mpr c4
          clear c4
          by_cases c5 : t136 = 65533
          · rw [if_pos c5] at H
            have c5b0 : (t136 == 65533) = true := beq_iff_eq.mpr c5
            have c5b1 : (t136 != 65533) = false := bne_eq_false_iff_eq.mpr c5
            clear c5
            obtain rfl := Option.some.inj H
            go_wp2_with (first | ((with_reducible refine gate_callee (f := 61) rfl ?_); refine goesL_ (some 9) rfl rfl Tryd.func61 (by kernel_rfl) rfl #[.string x0_1] rfl (by (try simp only [List.map_toArray, List.map_cons, List.map_nil]); first | done | rfl | (simp only [List.length_drop, List.length_take]; rfl)) ?_; (with_reducible refine (chancelref01_size.calls k1 x0_1 t135 t136 _ A3.out).mono ?_); rintro e w' ⟨rfl, ⟨nd, rfl⟩⟩; refine ⟨_, rfl, ?_⟩))
            go_ret
            exact ⟨by first | rfl | (simp; done) | (simp [*]; done), by repeat (first | exact Drawn0.refl _ | apply Drawn0.step)⟩
          · rw [if_neg c5] at H
            have c5b0 : (t136 == 65533) = false := beq_eq_false_iff_ne.mpr c5
            have c5b1 : (t136 != 65533) = true := bne_iff_ne.mpr c5
            by_cases c6 : 0 ≤ t135
            · rw [if_pos c6] at H
              have c6b0 := eq_true c6
              have c6b1 : decide (0 ≤ t135) = true := decide_eq_true c6
              clear c6
              by_cases c7 : t135 ≤ (x0_1.size : Int)
              · rw [if_pos c7] at H
                have c7b0 := eq_true c7
                have c7b1 : decide (t135 ≤ (x0_1.size : Int)) = true := decide_eq_true c7
                clear c7
                have H' := Aside0.mk H
                clear H
                go_wp2_with (first | ((with_reducible refine gate_callee (f := 61) rfl ?_); refine goesL_ (some 9) rfl rfl Tryd.func61 (by kernel_rfl) rfl #[.string x0_1] rfl (by (try simp only [List.map_toArray, List.map_cons, List.map_nil]); first | done | rfl | (simp only [List.length_drop, List.length_take]; rfl)) ?_; (with_reducible refine (chancelref01_size.calls k1 x0_1 t135 t136 _ A3.out).mono ?_); rintro e w' ⟨rfl, ⟨nd, rfl⟩⟩; refine ⟨_, rfl, ?_⟩))
                go_roundg k1
                case measure => have := HK1.out; omega
                case rel => exact ⟨(x0_1.extract (t135 : Int).toNat x0_1.size), (by first | rfl | (simp; done) | (simp [*]; done)), H', ⟨by have := HK1.out; omega⟩, by repeat (first | exact Drawn0.refl _ | apply Drawn0.step)⟩
              · rw [if_neg c7] at H
                exact absurd H (by simp)
            · rw [if_neg c6] at H
              exact absurd H (by simp)
        · rw [if_neg c4] at H
          have c4b0 : (t135 == 1) = false := beq_eq_false_iff_ne.mpr c4
          have c4b1 : (t135 != 1) = true := bne_iff_ne.mpr c4
          by_cases c8 : 0 ≤ t135
          · rw [if_pos c8] at H
            have c8b0 := eq_true c8
            have c8b1 : decide (0 ≤ t135) = true := decide_eq_true c8
            clear c8
            by_cases c9 : t135 ≤ (x0_1.size : Int)
            · rw [if_pos c9] at H
              have c9b0 := eq_true c9
              have c9b1 : decide (t135 ≤ (x0_1.size : Int)) = true := decide_eq_true c9
              clear c9
              have H' := Aside0.mk H
              clear H
              go_wp2_with (first | ((with_reducible refine gate_callee (f := 61) rfl ?_); refine goesL_ (some 9) rfl rfl Tryd.func61 (by kernel_rfl) rfl #[.string x0_1] rfl (by (try simp only [List.map_toArray, List.map_cons, List.map_nil]); first | done | rfl | (simp only [List.length_drop, List.length_take]; rfl)) ?_; (with_reducible refine (chancelref01_size.calls k1 x0_1 t135 t136 _ A3.out).mono ?_); rintro e w' ⟨rfl, ⟨nd, rfl⟩⟩; refine ⟨_, rfl, ?_⟩))
              go_roundg k1
              case measure => have := HK1.out; omega
              case rel => exact ⟨(x0_1.extract (t135 : Int).toNat x0_1.size), (by first | rfl | (simp; done) | (simp [*]; done)), H', ⟨by have := HK1.out; omega⟩, by repeat (first | exact Drawn0.refl _ | apply Drawn0.step)⟩
            · rw [if_neg c9] at H
              exact absurd H (by simp)
          · rw [if_neg c8] at H
            exact absurd H (by simp)

end Go.Proofs.YtkkjebjlgcggcaaDoor.PSheetForks
