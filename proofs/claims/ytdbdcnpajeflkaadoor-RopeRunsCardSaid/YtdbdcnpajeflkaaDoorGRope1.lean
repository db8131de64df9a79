/- The walks of letters.Count and letters.Byte: how many letters a text has, and where one begins. Conditions: texts of at most 2^62 bytes. -/
import Derived.Test.YtdbdcnpajeflkaaDoorGRope0
import Derived.Laws.RangeAny
namespace Go.Proofs.YtdbdcnpajeflkaaDoor.Rope
open Go.RowKit Go.Proofs.YtdbdcnpajeflkaaDoorW.PrintWords Go.Proofs.YtdbdcnpajeflkaaDoorW.PrintLast Go.Proofs.YtdbdcnpajeflkaaDoorW.PrintMore
set_option linter.unusedVariables false
set_option linter.unusedSimpArgs false
theorem below_iter {B : Nat} {w : World} (s : ByteArray) (pos : Nat) : Below w.heap.size w (w.iter s pos) := (Below.refl _ _).alloc (Nat.le_refl _) _
set_option maxRecDepth 1000000 in
theorem letters_Count (s : ByteArray) (w : World) (hs : s.size ≤ 4611686018427387904) :
    Calls Tryd.prog 36 #[.string s] w fun e w' => e = .returned (.int .i64 (Lib.runeCount s : Nat)) ∧ Below w.heap.size w w' := by
  go_enter Tryd.func36, Tryd.ntmps36
  go_wp2
  go_loopw [3] (fun n w' => ∃ (pos b m : Nat), w' = w.iter s pos ∧ n = .int .i64 (m : Int) ∧ m + Lib.runeCountFrom s b pos = Lib.runeCount s ∧ s.size ≤ pos + b) (fun _ w' => s.size - w'.iterPos w.heap.size)
  case atStart => exact ⟨0, s.size, 0, rfl, rfl, by simp [Lib.runeCount], by omega⟩
  case round =>
    obtain ⟨pos, b, m, rfl, rfl, hc, hb⟩ := hrel
    have hle := Lib.runeCount_le s
    have hm1 : m ≤ s.size := by omega
    by_cases hp : pos < s.size
    · have hnx : ∀ ty, (Instr.next (.pointer (some ⟨w.heap.size, 0, none⟩)) true ty).run Tryd.prog (w.iter s pos) = _ := fun ty => run_next_any w s pos ty hp
      have HC := Lib.hid hc
      clear hc hle
      go_wp2
      have hwd := Lib.decode_width_pos s pos hp
      go_roundw
      case rel =>
        cases b with
        | zero => omega
        | succ b =>
          refine ⟨pos + (Utf8.decode s pos).2, b, m + 1, rfl, by go_num, ?_, by omega⟩
          have := HC.out
          rw [Lib.runeCountFrom, if_pos hp] at this
          omega
      case measure =>
        simp
        omega
    · have hnx : ∀ ty, (Instr.next (.pointer (some ⟨w.heap.size, 0, none⟩)) true ty).run Tryd.prog (w.iter s pos) = _ := fun ty => run_next_end w s pos ty hp
      have HC := Lib.hid hc
      clear hc hle
      go_wp2
      go_ret
      have := HC.out
      rw [Lib.runeCountFrom_end s b pos hp] at this
      refine ⟨?_, below_iter (B := 0) s pos⟩
      rw [← this]; rfl
/-- How many bytes are ahead of the k-th letter from pos on. -/
def byteFrom (s : ByteArray) : Nat → Nat → Nat → Nat
  | 0, _, _ => s.size
  | f + 1, k, pos => if pos < s.size then (if k = 0 then pos else byteFrom s f (k - 1) (pos + (Utf8.decode s pos).2)) else s.size
def byteAt (s : ByteArray) (at_ : Int) : Nat := if at_ ≤ 0 then 0 else byteFrom s s.size at_.toNat 0
set_option maxRecDepth 1000000 in
theorem letters_Byte (s : ByteArray) (at_ : Int) (w : World) (hs : s.size ≤ 4611686018427387904) :
    Calls Tryd.prog 43 #[.string s, .int .i64 at_] w fun e w' => e = .returned (.int .i64 (byteAt s at_ : Nat)) ∧ Below w.heap.size w w' := by
  by_cases h0 : at_ ≤ 0
  · go_enter Tryd.func43, Tryd.ntmps43
    go_wp2
    go_ret
    refine ⟨?_, Below.refl _ _⟩
    unfold byteAt; rw [if_pos h0]; rfl
  · obtain ⟨k0, rfl⟩ := Int.eq_ofNat_of_zero_le (show 0 ≤ at_ by omega)
    have hbd : decide ((k0 : Int) ≤ 0) = false := by simp; omega
    have hk0 : 0 < k0 := by omega
    have E : byteAt s (k0 : Int) = byteFrom s s.size k0 0 := by unfold byteAt; rw [if_neg h0, Int.toNat_natCast]
    rw [E]
    clear E h0
    go_enter Tryd.func43, Tryd.ntmps43
    go_wp2
    go_loopw [5] (fun n w' => ∃ (pos b m : Nat), w' = w.iter s pos ∧ n = .int .i64 (m : Int) ∧ m ≤ k0 ∧ m ≤ pos ∧ byteFrom s b (k0 - m) pos = byteFrom s s.size k0 0 ∧ s.size ≤ pos + b) (fun _ w' => s.size - w'.iterPos w.heap.size)
    case atStart => exact ⟨0, s.size, 0, rfl, rfl, by omega, by omega, rfl, by omega⟩
    case round =>
      obtain ⟨pos, b, m, rfl, rfl, hm, hmp, hc, hb⟩ := hrel
      by_cases hp : pos < s.size
      · have hnx : ∀ ty, (Instr.next (.pointer (some ⟨w.heap.size, 0, none⟩)) true ty).run Tryd.prog (w.iter s pos) = _ := fun ty => run_next_any w s pos ty hp
        have HC := Lib.hid hc
        clear hc
        by_cases hq : m = k0
        · have hqb : ((m : Int) == (k0 : Int)) = true := by simp [hq]
          have HQ := Lib.hid hq
          clear hq
          go_wp2
          go_ret
          refine ⟨?_, below_iter (B := 0) s _⟩
          have := HC.out
          cases b with
          | zero => omega
          | succ b =>
            rw [byteFrom, if_pos hp, if_pos (by have := HQ.out; omega)] at this
            rw [← this]; rfl
        · have hqb : ((m : Int) == (k0 : Int)) = false := by simp; omega
          have HQ := Lib.hid hq
          clear hq
          go_wp2
          have hwd := Lib.decode_width_pos s pos hp
          go_roundw
          case rel =>
            cases b with
            | zero => omega
            | succ b =>
              have hq := HQ.out
              refine ⟨pos + (Utf8.decode s pos).2, b, m + 1, rfl, by go_num, by omega, by omega, ?_, by omega⟩
              have := HC.out
              rw [byteFrom, if_pos hp, if_neg (by omega)] at this
              rw [show k0 - (m + 1) = k0 - m - 1 by omega]
              exact this
          case measure =>
            simp
            omega
      · have hnx : ∀ ty, (Instr.next (.pointer (some ⟨w.heap.size, 0, none⟩)) true ty).run Tryd.prog (w.iter s pos) = _ := fun ty => run_next_end w s pos ty hp
        have HC := Lib.hid hc
        clear hc
        go_wp2
        go_ret
        refine ⟨?_, below_iter (B := 0) s _⟩
        have := HC.out
        have e : byteFrom s b (k0 - m) pos = s.size := by cases b <;> simp [byteFrom, hp]
        rw [← this, e]; rfl
end Go.Proofs.YtdbdcnpajeflkaaDoor.Rope
