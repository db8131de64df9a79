-- PRINTED BY print.sh 35421559b90ae4d0a3588c463048766b98c2df88dd9212a6774a882060cdf62d: not written by this session
import Derived.Test.YtdbdcnpajeflkaaDoorPRopeRunsx0
import Derived.Test.YtdbdcnpajeflkaaDoorPRopeRunsx2
namespace Go.Proofs.YtdbdcnpajeflkaaDoor.PRopeRuns
open Go.RowKit Go.Proofs.YtdbdcnpajeflkaaDoorW.PrintWords Go.Proofs.YtdbdcnpajeflkaaDoorW.PrintLast Go.Proofs.YtdbdcnpajeflkaaDoorW.PrintMore
attribute [local go_sem] max2_int min2_int max_two min_two max_three min_three max_four min_four   -- for this text's walks alone
set_option linter.unusedVariables false
set_option linter.unusedSimpArgs false

/-! ### chancelref01_Cut: function 17 -/
def chancelref01_Cut.f (k : Nat) (a0 : ByteArray) (a1 : Int) (a2 : Int) : Option (ByteArray) := (chancelref01_Byte.f k a0 a1).bind fun t125 => ((chancelref01_Byte.f k a0 a2).bind fun t126 => (if t126 ≤ t125 then (some (⟨#[]⟩ : ByteArray)) else (if 0 ≤ t125 then (if t125 ≤ t126 then (if t126 ≤ (a0.size : Int) then (some (a0.extract (t125 : Int).toNat (t126 : Int).toNat)) else (none)) else (none)) else (none))))
theorem chancelref01_Cut.mono : ∀ a0 a1 a2 k, LeO (chancelref01_Cut.f k a0 a1 a2) (chancelref01_Cut.f (k + 1) a0 a1 a2) := by
  intro a0 a1 a2 k
  unfold chancelref01_Cut.f
  repeat' first
      | (with_reducible exact chancelref01_Byte.mono _ _ _)
      | (with_reducible exact LeO.refl _)
      | (with_reducible exact LeO.none _)
      | (with_reducible refine LeO.ite ?_ ?_)
      | (with_reducible refine LeO.bind ?_ (fun _ => ?_))
      | exact chancelref01_Byte.mono _ _ _
      | exact LeO.none _
      | refine LeO.ite ?_ ?_
      | refine LeO.bind ?_ (fun _ => ?_)
set_option maxHeartbeats 8000000 in
set_option maxRecDepth 100000 in
theorem chancelref01_Cut.calls (k : Nat) (a0 : ByteArray) (a1 : Int) (a2 : Int) (r : ByteArray) (w : World) (h : chancelref01_Cut.f k a0 a1 a2 = some r) :
    Calls Tryd.prog 17 #[.string a0, .int .i64 a1, .int .i64 a2] w fun e w' => e = .returned (.string r) ∧ Drawn0 w w' := by
  have H : ((chancelref01_Byte.f k a0 a1).bind fun t125 => ((chancelref01_Byte.f k a0 a2).bind fun t126 => (if t126 ≤ t125 then (some (⟨#[]⟩ : ByteArray)) else (if 0 ≤ t125 then (if t125 ≤ t126 then (if t126 ≤ (a0.size : Int) then (some (a0.extract (t125 : Int).toNat (t126 : Int).toNat)) else (none)) else (none)) else (none))))) = some r := h
  clear h
  replace H := Option.bind_eq_some_iff.mp H
  obtain ⟨t125, A40, H⟩ := H
  replace H : ((chancelref01_Byte.f k a0 a2).bind fun t126 => (if t126 ≤ t125 then (some (⟨#[]⟩ : ByteArray)) else (if 0 ≤ t125 then (if t125 ≤ t126 then (if t126 ≤ (a0.size : Int) then (some (a0.extract (t125 : Int).toNat (t126 : Int).toNat)) else (none)) else (none)) else (none)))) = some r := H
  have A4 := Aside0.mk A40
  clear A40
  replace H := Option.bind_eq_some_iff.mp H
  obtain ⟨t126, A50, H⟩ := H
  replace H : (if t126 ≤ t125 then (some (⟨#[]⟩ : ByteArray)) else (if 0 ≤ t125 then (if t125 ≤ t126 then (if t126 ≤ (a0.size : Int) then (some (a0.extract (t125 : Int).toNat (t126 : Int).toNat)) else (none)) else (none)) else (none))) = some r := H
  have A5 := Aside0.mk A50
  clear A50
  by_cases c6 : t126 ≤ t125
  · rw [if_pos c6] at H
    have c6b0 : decide (t126 ≤ t125) = true := decide_eq_true c6
    clear c6
    obtain rfl := Option.some.inj H
    go_enter Tryd.func17, Tryd.ntmps17
    go_wp2_with (first | ((with_reducible refine gate_callee (f := 34) rfl ?_); refine goesL_ (some 11) rfl rfl Tryd.func34 (by kernel_rfl) rfl #[.string a0, .int .i64 a1] rfl (by (try simp only [List.map_toArray, List.map_cons, List.map_nil]); first | done | rfl | (simp only [List.length_drop, List.length_take]; rfl)) ?_; (with_reducible refine (chancelref01_Byte.calls k a0 a1 t125 _ A4.out).mono ?_); rintro e w' ⟨rfl, ⟨nd, rfl⟩⟩; refine ⟨_, rfl, ?_⟩) | ((with_reducible refine gate_callee (f := 34) rfl ?_); refine goesL_ (some 14) rfl rfl Tryd.func34 (by kernel_rfl) rfl #[.string a0, .int .i64 a2] rfl (by (try simp only [List.map_toArray, List.map_cons, List.map_nil]); first | done | rfl | (simp only [List.length_drop, List.length_take]; rfl)) ?_; (with_reducible refine (chancelref01_Byte.calls k a0 a2 t126 _ A5.out).mono ?_); rintro e w' ⟨rfl, ⟨nd, rfl⟩⟩; refine ⟨_, rfl, ?_⟩))
    go_ret
    exact ⟨by first | rfl | (simp; done) | (simp [*]; done), by repeat (first | exact Drawn0.refl _ | apply Drawn0.step)⟩
  · rw [if_neg c6] at H
    have c6b0 : decide (t126 ≤ t125) = false := decide_eq_false c6
    clear c6
    by_cases c7 : 0 ≤ t125
    · rw [if_pos c7] at H
      have c7b0 := eq_true c7
      have c7b1 : decide (0 ≤ t125) = true := decide_eq_true c7
      clear c7
      by_cases c8 : t125 ≤ t126
      · rw [if_pos c8] at H
        have c8b0 := eq_true c8
        have c8b1 : decide (t125 ≤ t126) = true := decide_eq_true c8
        clear c8
        by_cases c9 : t126 ≤ (a0.size : Int)
        · rw [if_pos c9] at H
          have c9b0 := eq_true c9
          have c9b1 : decide (t126 ≤ (a0.size : Int)) = true := decide_eq_true c9
          clear c9
          obtain rfl := Option.some.inj H
          go_enter Tryd.func17, Tryd.ntmps17
          go_wp2_with (first | ((with_reducible refine gate_callee (f := 34) rfl ?_); refine goesL_ (some 11) rfl rfl Tryd.func34 (by kernel_rfl) rfl #[.string a0, .int .i64 a1] rfl (by (try simp only [List.map_toArray, List.map_cons, List.map_nil]); first | done | rfl | (simp only [List.length_drop, List.length_take]; rfl)) ?_; (with_reducible refine (chancelref01_Byte.calls k a0 a1 t125 _ A4.out).mono ?_); rintro e w' ⟨rfl, ⟨nd, rfl⟩⟩; refine ⟨_, rfl, ?_⟩) | ((with_reducible refine gate_callee (f := 34) rfl ?_); refine goesL_ (some 14) rfl rfl Tryd.func34 (by kernel_rfl) rfl #[.string a0, .int .i64 a2] rfl (by (try simp only [List.map_toArray, List.map_cons, List.map_nil]); first | done | rfl | (simp only [List.length_drop, List.length_take]; rfl)) ?_; (with_reducible refine (chancelref01_Byte.calls k a0 a2 t126 _ A5.out).mono ?_); rintro e w' ⟨rfl, ⟨nd, rfl⟩⟩; refine ⟨_, rfl, ?_⟩))
          go_ret
          exact ⟨by first | rfl | (simp; done) | (simp [*]; done), by repeat (first | exact Drawn0.refl _ | apply Drawn0.step)⟩
        · rw [if_neg c9] at H
          exact absurd H (by simp)
      · rw [if_neg c8] at H
        exact absurd H (by simp)
    · rw [if_neg c7] at H
      exact absurd H (by simp)

-- NOT PRINTED: function 18 (rope_Rope_Drop)

/-! ### chancelref02_Drop: function 19 -/
def chancelref02_Drop.f (k : Nat) (a0 : ByteArray) (a1 : Int) (a2 : Int) : Option (ByteArray) := (chancelref01_Byte.f k a0 a1).bind fun t127 => ((chancelref01_Byte.f k a0 a2).bind fun t128 => (if t128 ≤ t127 then (some a0) else (if 0 ≤ t127 then (if t127 ≤ (a0.size : Int) then (if 0 ≤ t128 then (if t128 ≤ (a0.size : Int) then (if (a0.extract 0 (t127 : Int).toNat).size + (a0.extract (t128 : Int).toNat a0.size).size ≤ 9223372036854775807 then (some ((a0.extract 0 (t127 : Int).toNat) ++ (a0.extract (t128 : Int).toNat a0.size))) else (none)) else (none)) else (none)) else (none)) else (none))))
theorem chancelref02_Drop.mono : ∀ a0 a1 a2 k, LeO (chancelref02_Drop.f k a0 a1 a2) (chancelref02_Drop.f (k + 1) a0 a1 a2) := by
  intro a0 a1 a2 k
  unfold chancelref02_Drop.f
  repeat' first
      | (with_reducible exact chancelref01_Byte.mono _ _ _)
      | (with_reducible exact LeO.refl _)
      | (with_reducible exact LeO.none _)
      | (with_reducible refine LeO.ite ?_ ?_)
      | (with_reducible refine LeO.bind ?_ (fun _ => ?_))
      | exact chancelref01_Byte.mono _ _ _
      | exact LeO.none _
      | refine LeO.ite ?_ ?_
      | refine LeO.bind ?_ (fun _ => ?_)
set_option maxHeartbeats 8000000 in
set_option maxRecDepth 100000 in
theorem chancelref02_Drop.calls (k : Nat) (a0 : ByteArray) (a1 : Int) (a2 : Int) (r : ByteArray) (w : World) (h : chancelref02_Drop.f k a0 a1 a2 = some r) :
    Calls Tryd.prog 19 #[.string a0, .int .i64 a1, .int .i64 a2] w fun e w' => e = .returned (.string r) ∧ Drawn0 w w' := by
  have H : ((chancelref01_Byte.f k a0 a1).bind fun t127 => ((chancelref01_Byte.f k a0 a2).bind fun t128 => (if t128 ≤ t127 then (some a0) else (if 0 ≤ t127 then (if t127 ≤ (a0.size : Int) then (if 0 ≤ t128 then (if t128 ≤ (a0.size : Int) then (if (a0.extract 0 (t127 : Int).toNat).size + (a0.extract (t128 : Int).toNat a0.size).size ≤ 9223372036854775807 then (some ((a0.extract 0 (t127 : Int).toNat) ++ (a0.extract (t128 : Int).toNat a0.size))) else (none)) else (none)) else (none)) else (none)) else (none))))) = some r := h
  clear h
  replace H := Option.bind_eq_some_iff.mp H
  obtain ⟨t127, A40, H⟩ := H
  replace H : ((chancelref01_Byte.f k a0 a2).bind fun t128 => (if t128 ≤ t127 then (some a0) else (if 0 ≤ t127 then (if t127 ≤ (a0.size : Int) then (if 0 ≤ t128 then (if t128 ≤ (a0.size : Int) then (if (a0.extract 0 (t127 : Int).toNat).size + (a0.extract (t128 : Int).toNat a0.size).size ≤ 9223372036854775807 then (some ((a0.extract 0 (t127 : Int).toNat) ++ (a0.extract (t128 : Int).toNat a0.size))) else (none)) else (none)) else (none)) else (none)) else (none)))) = some r := H
  have A4 := Aside0.mk A40
  clear A40
  replace H := Option.bind_eq_some_iff.mp H
  obtain ⟨t128, A50, H⟩ := H
  replace H : (if t128 ≤ t127 then (some a0) else (if 0 ≤ t127 then (if t127 ≤ (a0.size : Int) then (if 0 ≤ t128 then (if t128 ≤ (a0.size : Int) then (if (a0.extract 0 (t127 : Int).toNat).size + (a0.extract (t128 : Int).toNat a0.size).size ≤ 9223372036854775807 then (some ((a0.extract 0 (t127 : Int).toNat) ++ (a0.extract (t128 : Int).toNat a0.size))) else (none)) else (none)) else (none)) else (none)) else (none))) = some r := H
  have A5 := Aside0.mk A50
  clear A50
  by_cases c6 : t128 ≤ t127
  · rw [if_pos c6] at H
    have c6b0 : decide (t128 ≤ t127) = true := decide_eq_true c6
    clear c6
    obtain rfl := Option.some.inj H
    go_enter Tryd.func19, Tryd.ntmps19
    go_wp2_with (first | (go_at_call 34; (with_reducible refine (chancelref01_Byte.calls k a0 a1 t127 _ A4.out).mono ?_); rintro e w' ⟨rfl, ⟨nd, rfl⟩⟩; (try first | exact ⟨rfl, _, World.drewN_drewN _ _ _⟩ | exact ⟨rfl, _, Eq.trans (World.drewN_drewN _ _ _) (congrArg (World.drewN _) (Nat.add_assoc _ _ _))⟩)) | (go_at_call 34; (with_reducible refine (chancelref01_Byte.calls k a0 a2 t128 _ A5.out).mono ?_); rintro e w' ⟨rfl, ⟨nd, rfl⟩⟩; (try first | exact ⟨rfl, _, World.drewN_drewN _ _ _⟩ | exact ⟨rfl, _, Eq.trans (World.drewN_drewN _ _ _) (congrArg (World.drewN _) (Nat.add_assoc _ _ _))⟩)))
    repeat (go_quiet (first | (go_at_call 34; (with_reducible refine (chancelref01_Byte.calls k a0 a1 t127 _ A4.out).mono ?_); rintro e w' ⟨rfl, ⟨nd, rfl⟩⟩; (try first | exact ⟨rfl, _, World.drewN_drewN _ _ _⟩ | exact ⟨rfl, _, Eq.trans (World.drewN_drewN _ _ _) (congrArg (World.drewN _) (Nat.add_assoc _ _ _))⟩)) | (go_at_call 34; (with_reducible refine (chancelref01_Byte.calls k a0 a2 t128 _ A5.out).mono ?_); rintro e w' ⟨rfl, ⟨nd, rfl⟩⟩; (try first | exact ⟨rfl, _, World.drewN_drewN _ _ _⟩ | exact ⟨rfl, _, Eq.trans (World.drewN_drewN _ _ _) (congrArg (World.drewN _) (Nat.add_assoc _ _ _))⟩))); try go_wp2_with (first | (go_at_call 34; (with_reducible refine (chancelref01_Byte.calls k a0 a1 t127 _ A4.out).mono ?_); rintro e w' ⟨rfl, ⟨nd, rfl⟩⟩; (try first | exact ⟨rfl, _, World.drewN_drewN _ _ _⟩ | exact ⟨rfl, _, Eq.trans (World.drewN_drewN _ _ _) (congrArg (World.drewN _) (Nat.add_assoc _ _ _))⟩)) | (go_at_call 34; (with_reducible refine (chancelref01_Byte.calls k a0 a2 t128 _ A5.out).mono ?_); rintro e w' ⟨rfl, ⟨nd, rfl⟩⟩; (try first | exact ⟨rfl, _, World.drewN_drewN _ _ _⟩ | exact ⟨rfl, _, Eq.trans (World.drewN_drewN _ _ _) (congrArg (World.drewN _) (Nat.add_assoc _ _ _))⟩))))
    go_ret
    exact ⟨by first | rfl | (simp; done) | (simp [*]; done), by repeat (first | exact Drawn0.refl _ | apply Drawn0.step)⟩
  · rw [if_neg c6] at H
    have c6b0 : decide (t128 ≤ t127) = false := decide_eq_false c6
    clear c6
    by_cases c7 : 0 ≤ t127
    · rw [if_pos c7] at H
      have c7b0 := eq_true c7
      have c7b1 : decide (0 ≤ t127) = true := decide_eq_true c7
      clear c7
      by_cases c8 : t127 ≤ (a0.size : Int)
      · rw [if_pos c8] at H
        have c8b0 := eq_true c8
        have c8b1 : decide (t127 ≤ (a0.size : Int)) = true := decide_eq_true c8
        clear c8
        by_cases c9 : 0 ≤ t128
        · rw [if_pos c9] at H
          have c9b0 := eq_true c9
          have c9b1 : decide (0 ≤ t128) = true := decide_eq_true c9
          clear c9
          by_cases c10 : t128 ≤ (a0.size : Int)
          · rw [if_pos c10] at H
            have c10b0 := eq_true c10
            have c10b1 : decide (t128 ≤ (a0.size : Int)) = true := decide_eq_true c10
            clear c10
            by_cases c11 : (a0.extract 0 (t127 : Int).toNat).size + (a0.extract (t128 : Int).toNat a0.size).size ≤ 9223372036854775807
            · rw [if_pos c11] at H
              have c11b0 := eq_true c11
              have c11b1 : decide ((a0.extract 0 (t127 : Int).toNat).size + (a0.extract (t128 : Int).toNat a0.size).size ≤ 9223372036854775807) = true := decide_eq_true c11
              try have c11b2 : (9223372036854775807 < (a0.extract 0 (t127 : Int).toNat).size + (a0.extract (t128 : Int).toNat a0.size).size) = False := eq_false (Nat.not_lt.2 c11)
              obtain rfl := Option.some.inj H
              go_enter Tryd.func19, Tryd.ntmps19
              go_wp2_with (first | (go_at_call 34; (with_reducible refine (chancelref01_Byte.calls k a0 a1 t127 _ A4.out).mono ?_); rintro e w' ⟨rfl, ⟨nd, rfl⟩⟩; (try first | exact ⟨rfl, _, World.drewN_drewN _ _ _⟩ | exact ⟨rfl, _, Eq.trans (World.drewN_drewN _ _ _) (congrArg (World.drewN _) (Nat.add_assoc _ _ _))⟩)) | (go_at_call 34; (with_reducible refine (chancelref01_Byte.calls k a0 a2 t128 _ A5.out).mono ?_); rintro e w' ⟨rfl, ⟨nd, rfl⟩⟩; (try first | exact ⟨rfl, _, World.drewN_drewN _ _ _⟩ | exact ⟨rfl, _, Eq.trans (World.drewN_drewN _ _ _) (congrArg (World.drewN _) (Nat.add_assoc _ _ _))⟩)))
              repeat (go_quiet (first | (go_at_call 34; (with_reducible refine (chancelref01_Byte.calls k a0 a1 t127 _ A4.out).mono ?_); rintro e w' ⟨rfl, ⟨nd, rfl⟩⟩; (try first | exact ⟨rfl, _, World.drewN_drewN _ _ _⟩ | exact ⟨rfl, _, Eq.trans (World.drewN_drewN _ _ _) (congrArg (World.drewN _) (Nat.add_assoc _ _ _))⟩)) | (go_at_call 34; (with_reducible refine (chancelref01_Byte.calls k a0 a2 t128 _ A5.out).mono ?_); rintro e w' ⟨rfl, ⟨nd, rfl⟩⟩; (try first | exact ⟨rfl, _, World.drewN_drewN _ _ _⟩ | exact ⟨rfl, _, Eq.trans (World.drewN_drewN _ _ _) (congrArg (World.drewN _) (Nat.add_assoc _ _ _))⟩))); try go_wp2_with (first | (go_at_call 34; (with_reducible refine (chancelref01_Byte.calls k a0 a1 t127 _ A4.out).mono ?_); rintro e w' ⟨rfl, ⟨nd, rfl⟩⟩; (try first | exact ⟨rfl, _, World.drewN_drewN _ _ _⟩ | exact ⟨rfl, _, Eq.trans (World.drewN_drewN _ _ _) (congrArg (World.drewN _) (Nat.add_assoc _ _ _))⟩)) | (go_at_call 34; (with_reducible refine (chancelref01_Byte.calls k a0 a2 t128 _ A5.out).mono ?_); rintro e w' ⟨rfl, ⟨nd, rfl⟩⟩; (try first | exact ⟨rfl, _, World.drewN_drewN _ _ _⟩ | exact ⟨rfl, _, Eq.trans (World.drewN_drewN _ _ _) (congrArg (World.drewN _) (Nat.add_assoc _ _ _))⟩))))
              go_ret
              exact ⟨by first | rfl | (simp; done) | (simp [*]; done), by repeat (first | exact Drawn0.refl _ | apply Drawn0.step)⟩
            · rw [if_neg c11] at H
              exact absurd H (by simp)
          · rw [if_neg c10] at H
            exact absurd H (by simp)
        · rw [if_neg c9] at H
          exact absurd H (by simp)
      · rw [if_neg c8] at H
        exact absurd H (by simp)
    · rw [if_neg c7] at H
      exact absurd H (by simp)

-- NOT PRINTED: function 7 (chancellaw02_RopeRuns)

end Go.Proofs.YtdbdcnpajeflkaaDoor.PRopeRuns
