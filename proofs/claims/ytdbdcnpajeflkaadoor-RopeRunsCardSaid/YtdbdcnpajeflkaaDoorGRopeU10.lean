/- Plain laws: what the document's functions on texts (chancelref01, chancelref02) answer of texts that are letters. Conditions: texts of at most 2^40 bytes. -/
import Derived.Test.YtdbdcnpajeflkaaDoorGRopeU9
import Derived.Test.YtdbdcnpajeflkaaDoorPRopeRunsx1
import Derived.Test.YtdbdcnpajeflkaaDoorPRopeRunsx2
import Derived.Test.YtdbdcnpajeflkaaDoorPRopeRunsx3
import Derived.Test.YtdbdcnpajeflkaaDoorPl
namespace Go.Proofs.YtdbdcnpajeflkaaDoor.Rope
open Go.RowKit Go.Proofs.YtdbdcnpajeflkaaDoorPl Go.Proofs.YtdbdcnpajeflkaaDoor.PRopeRuns Go.Proofs.YtdbdcnpajeflkaaDoorW.PrintWords Go.Proofs.YtdbdcnpajeflkaaDoorW.PrintLast Go.Proofs.YtdbdcnpajeflkaaDoorW.PrintMore
set_option linter.unusedVariables false
set_option linter.unusedSimpArgs false
theorem ev_eight {α : Type} {g : Nat → Option α} {r : α} (h : ∀ m, g (m + 8) = some r) : Ev g r := ⟨8, fun k hk => by obtain ⟨m, rfl⟩ : ∃ m, k = m + 8 := ⟨k - 8, by omega⟩; exact h m⟩
theorem bt_nat (s : ByteArray) (i : Nat) : bt s (i : Int) = ((s.data.toList.getD i 0).toNat : Int) := by
  unfold bt
  rw [Int.toNat_natCast]
  split
  · rename_i h
    have : s.data.toList.getD i 0 = s[i] := by
      have h' : i < s.data.toList.length := by simpa using h
      rw [List.getD_eq_getElem?_getD, List.getElem?_eq_getElem h']; rfl
    rw [this]
  · rename_i h
    have h' : s.data.toList.length ≤ i := by simpa using h
    rw [List.getD_eq_getElem?_getD, List.getElem?_eq_none h']; rfl
theorem wrap_b (x : UInt8) : wrap64 ((x.toNat : Nat) : Int) = (x.toNat : Int) := wrap_id (by omega) (by have := x.toNat_lt; omega)
theorem wrap32_id {x : Int} (h0 : 0 ≤ x) (h1 : x < 2147483648) : wrap32 x = x := by unfold wrap32; omega
theorem bad_eq : (some ((1 : Int), (65533 : Int)) : Option (Int × Int)) = some ((((65533, 1) : Nat × Nat).2 : Int), (((65533, 1) : Nat × Nat).1 : Int)) := by simp
theorem wrap_one : wrap64 (1 + 1) = 2 := by unfold wrap64; omega
theorem wrap_two : wrap64 (2 + 1) = 3 := by unfold wrap64; omega
theorem wrap_three : wrap64 (3 + 1) = 4 := by unfold wrap64; omega

theorem size_2 (s : ByteArray) (b0 b1 b2 b3 : Nat) (h0 : 192 ≤ b0) (h1 : b0 < 224) (k1 : b1 < 256) (k2 : b2 < 256) (k3 : b3 < 256) (e1 : bt s 1 = (b1 : Int)) (hs : s.size ≤ 1099511627776) (m : Nat) : chancelref01_size.j2 (m + 6) s 2 128 ((b0 : Int) - 192) = some (((Lib.decodeN s.size b0 b1 b2 b3).2 : Int), ((Lib.decodeN s.size b0 b1 b2 b3).1 : Int)) := by
  rw [chancelref01_size.j2]
  by_cases n2 : (s.size : Int) < 2
  · rw [if_pos n2]; unfold Lib.decodeN; rw [if_neg (by omega), if_neg (by omega), if_neg (by omega), if_neg (by omega)]; exact bad_eq
  · rw [if_neg n2, chancelref01_size.l0, if_pos (by omega), if_pos (by omega), if_pos (by omega), e1, wrap_id (x := (b1 : Int)) (by omega) (by omega)]
    by_cases q1 : (b1 : Int) < 128
    · rw [if_pos q1]; unfold Lib.decodeN; rw [if_neg (by omega), if_neg (by omega), if_neg (by omega), if_neg (by omega)]; exact bad_eq
    rw [if_neg q1]
    by_cases r1 : (b1 : Int) ≥ 192
    · rw [if_pos r1]; unfold Lib.decodeN; rw [if_neg (by omega), if_neg (by omega), if_neg (by omega), if_neg (by omega)]; exact bad_eq
    rw [if_neg r1, wrap_id (x := ((b0 : Int) - 192) * 64) (by omega) (by omega), wrap_id (x := ((b0 : Int) - 192) * 64 + (b1 : Int)) (by omega) (by omega), wrap_id (x := ((b0 : Int) - 192) * 64 + (b1 : Int) - 128) (by omega) (by omega), wrap_one, chancelref01_size.l0, if_neg (by omega)]
    by_cases f1 : (((b0 : Int) - 192) * 64 + (b1 : Int) - 128) < 128
    · rw [if_pos f1]; unfold Lib.decodeN; rw [if_neg (by omega), if_pos (by omega), if_neg (by omega)]; exact bad_eq
    rw [if_neg f1]
    rw [if_neg (by omega), if_neg (by omega), wrap32_id (by omega) (by omega)]; unfold Lib.decodeN; rw [if_neg (by omega), if_pos (by omega), if_pos (by omega)]
    congr 2; omega

theorem size_3 (s : ByteArray) (b0 b1 b2 b3 : Nat) (h0 : 224 ≤ b0) (h1 : b0 < 240) (k1 : b1 < 256) (k2 : b2 < 256) (k3 : b3 < 256) (e1 : bt s 1 = (b1 : Int)) (e2 : bt s 2 = (b2 : Int)) (hs : s.size ≤ 1099511627776) (m : Nat) : chancelref01_size.j2 (m + 6) s 3 2048 ((b0 : Int) - 224) = some (((Lib.decodeN s.size b0 b1 b2 b3).2 : Int), ((Lib.decodeN s.size b0 b1 b2 b3).1 : Int)) := by
  rw [chancelref01_size.j2]
  by_cases n2 : (s.size : Int) < 3
  · rw [if_pos n2]; unfold Lib.decodeN; rw [if_neg (by omega), if_neg (by omega), if_neg (by omega), if_neg (by omega)]; exact bad_eq
  · rw [if_neg n2, chancelref01_size.l0, if_pos (by omega), if_pos (by omega), if_pos (by omega), e1, wrap_id (x := (b1 : Int)) (by omega) (by omega)]
    by_cases q1 : (b1 : Int) < 128
    · rw [if_pos q1]; unfold Lib.decodeN; rw [if_neg (by omega), if_neg (by omega), if_neg (by omega), if_neg (by omega)]; exact bad_eq
    rw [if_neg q1]
    by_cases r1 : (b1 : Int) ≥ 192
    · rw [if_pos r1]; unfold Lib.decodeN; rw [if_neg (by omega), if_neg (by omega), if_neg (by omega), if_neg (by omega)]; exact bad_eq
    rw [if_neg r1, wrap_id (x := ((b0 : Int) - 224) * 64) (by omega) (by omega), wrap_id (x := ((b0 : Int) - 224) * 64 + (b1 : Int)) (by omega) (by omega), wrap_id (x := ((b0 : Int) - 224) * 64 + (b1 : Int) - 128) (by omega) (by omega), wrap_one, chancelref01_size.l0, if_pos (by omega), if_pos (by omega), if_pos (by omega), e2, wrap_id (x := (b2 : Int)) (by omega) (by omega)]
    by_cases q2 : (b2 : Int) < 128
    · rw [if_pos q2]; unfold Lib.decodeN; rw [if_neg (by omega), if_neg (by omega), if_neg (by omega), if_neg (by omega)]; exact bad_eq
    rw [if_neg q2]
    by_cases r2 : (b2 : Int) ≥ 192
    · rw [if_pos r2]; unfold Lib.decodeN; rw [if_neg (by omega), if_neg (by omega), if_neg (by omega), if_neg (by omega)]; exact bad_eq
    rw [if_neg r2, wrap_id (x := (((b0 : Int) - 224) * 64 + (b1 : Int) - 128) * 64) (by omega) (by omega), wrap_id (x := (((b0 : Int) - 224) * 64 + (b1 : Int) - 128) * 64 + (b2 : Int)) (by omega) (by omega), wrap_id (x := (((b0 : Int) - 224) * 64 + (b1 : Int) - 128) * 64 + (b2 : Int) - 128) (by omega) (by omega), wrap_two, chancelref01_size.l0, if_neg (by omega)]
    by_cases f1 : ((((b0 : Int) - 224) * 64 + (b1 : Int) - 128) * 64 + (b2 : Int) - 128) < 2048
    · rw [if_pos f1]; unfold Lib.decodeN; rw [if_neg (by omega), if_neg (by omega), if_pos (by omega), if_neg (by omega)]; exact bad_eq
    rw [if_neg f1]
    rw [if_neg (by omega)]
    by_cases f3 : ((((b0 : Int) - 224) * 64 + (b1 : Int) - 128) * 64 + (b2 : Int) - 128) ≥ 55296
    · rw [if_pos f3]
      by_cases f4 : ((((b0 : Int) - 224) * 64 + (b1 : Int) - 128) * 64 + (b2 : Int) - 128) < 57344
      · rw [if_pos f4]; unfold Lib.decodeN; rw [if_neg (by omega), if_neg (by omega), if_pos (by omega), if_neg (by omega)]; exact bad_eq
      rw [if_neg f4, wrap32_id (by omega) (by omega)]; unfold Lib.decodeN; rw [if_neg (by omega), if_neg (by omega), if_pos (by omega), if_pos (by omega)]
      congr 2; omega
    rw [if_neg f3, wrap32_id (by omega) (by omega)]; unfold Lib.decodeN; rw [if_neg (by omega), if_neg (by omega), if_pos (by omega), if_pos (by omega)]
    congr 2; omega

theorem size_4 (s : ByteArray) (b0 b1 b2 b3 : Nat) (h0 : 240 ≤ b0) (h1 : b0 < 248) (k1 : b1 < 256) (k2 : b2 < 256) (k3 : b3 < 256) (e1 : bt s 1 = (b1 : Int)) (e2 : bt s 2 = (b2 : Int)) (e3 : bt s 3 = (b3 : Int)) (hs : s.size ≤ 1099511627776) (m : Nat) : chancelref01_size.j2 (m + 6) s 4 65536 ((b0 : Int) - 240) = some (((Lib.decodeN s.size b0 b1 b2 b3).2 : Int), ((Lib.decodeN s.size b0 b1 b2 b3).1 : Int)) := by
  rw [chancelref01_size.j2]
  by_cases n2 : (s.size : Int) < 4
  · rw [if_pos n2]; unfold Lib.decodeN; rw [if_neg (by omega), if_neg (by omega), if_neg (by omega), if_neg (by omega)]; exact bad_eq
  · rw [if_neg n2, chancelref01_size.l0, if_pos (by omega), if_pos (by omega), if_pos (by omega), e1, wrap_id (x := (b1 : Int)) (by omega) (by omega)]
    by_cases q1 : (b1 : Int) < 128
    · rw [if_pos q1]; unfold Lib.decodeN; rw [if_neg (by omega), if_neg (by omega), if_neg (by omega), if_neg (by omega)]; exact bad_eq
    rw [if_neg q1]
    by_cases r1 : (b1 : Int) ≥ 192
    · rw [if_pos r1]; unfold Lib.decodeN; rw [if_neg (by omega), if_neg (by omega), if_neg (by omega), if_neg (by omega)]; exact bad_eq
    rw [if_neg r1, wrap_id (x := ((b0 : Int) - 240) * 64) (by omega) (by omega), wrap_id (x := ((b0 : Int) - 240) * 64 + (b1 : Int)) (by omega) (by omega), wrap_id (x := ((b0 : Int) - 240) * 64 + (b1 : Int) - 128) (by omega) (by omega), wrap_one, chancelref01_size.l0, if_pos (by omega), if_pos (by omega), if_pos (by omega), e2, wrap_id (x := (b2 : Int)) (by omega) (by omega)]
    by_cases q2 : (b2 : Int) < 128
    · rw [if_pos q2]; unfold Lib.decodeN; rw [if_neg (by omega), if_neg (by omega), if_neg (by omega), if_neg (by omega)]; exact bad_eq
    rw [if_neg q2]
    by_cases r2 : (b2 : Int) ≥ 192
    · rw [if_pos r2]; unfold Lib.decodeN; rw [if_neg (by omega), if_neg (by omega), if_neg (by omega), if_neg (by omega)]; exact bad_eq
    rw [if_neg r2, wrap_id (x := (((b0 : Int) - 240) * 64 + (b1 : Int) - 128) * 64) (by omega) (by omega), wrap_id (x := (((b0 : Int) - 240) * 64 + (b1 : Int) - 128) * 64 + (b2 : Int)) (by omega) (by omega), wrap_id (x := (((b0 : Int) - 240) * 64 + (b1 : Int) - 128) * 64 + (b2 : Int) - 128) (by omega) (by omega), wrap_two, chancelref01_size.l0, if_pos (by omega), if_pos (by omega), if_pos (by omega), e3, wrap_id (x := (b3 : Int)) (by omega) (by omega)]
    by_cases q3 : (b3 : Int) < 128
    · rw [if_pos q3]; unfold Lib.decodeN; rw [if_neg (by omega), if_neg (by omega), if_neg (by omega), if_neg (by omega)]; exact bad_eq
    rw [if_neg q3]
    by_cases r3 : (b3 : Int) ≥ 192
    · rw [if_pos r3]; unfold Lib.decodeN; rw [if_neg (by omega), if_neg (by omega), if_neg (by omega), if_neg (by omega)]; exact bad_eq
    rw [if_neg r3, wrap_id (x := ((((b0 : Int) - 240) * 64 + (b1 : Int) - 128) * 64 + (b2 : Int) - 128) * 64) (by omega) (by omega), wrap_id (x := ((((b0 : Int) - 240) * 64 + (b1 : Int) - 128) * 64 + (b2 : Int) - 128) * 64 + (b3 : Int)) (by omega) (by omega), wrap_id (x := ((((b0 : Int) - 240) * 64 + (b1 : Int) - 128) * 64 + (b2 : Int) - 128) * 64 + (b3 : Int) - 128) (by omega) (by omega), wrap_three, chancelref01_size.l0, if_neg (by omega)]
    by_cases f1 : (((((b0 : Int) - 240) * 64 + (b1 : Int) - 128) * 64 + (b2 : Int) - 128) * 64 + (b3 : Int) - 128) < 65536
    · rw [if_pos f1]; unfold Lib.decodeN; rw [if_neg (by omega), if_neg (by omega), if_neg (by omega), if_pos (by omega), if_neg (by omega)]; exact bad_eq
    rw [if_neg f1]
    by_cases f2 : (((((b0 : Int) - 240) * 64 + (b1 : Int) - 128) * 64 + (b2 : Int) - 128) * 64 + (b3 : Int) - 128) > 1114111
    · rw [if_pos f2]; unfold Lib.decodeN; rw [if_neg (by omega), if_neg (by omega), if_neg (by omega), if_pos (by omega), if_neg (by omega)]; exact bad_eq
    rw [if_neg f2, if_pos (by omega), if_neg (by omega), wrap32_id (by omega) (by omega)]; unfold Lib.decodeN; rw [if_neg (by omega), if_neg (by omega), if_neg (by omega), if_pos (by omega), if_pos (by omega)]
    congr 2; omega

theorem size_ev (s : ByteArray) (h : 0 < s.size) (hs : s.size ≤ 1099511627776) : Ev (fun k => chancelref01_size.f k s) (((Utf8.decode s 0).2 : Int), ((Utf8.decode s 0).1 : Int)) := by
  have el : s.data.toList.length = s.size := by simp
  rw [Lib.decode_N s 0, el, Nat.sub_zero, Nat.zero_add, Nat.zero_add, Nat.zero_add]
  have y0 := bt_nat s 0
  have y1 := bt_nat s 1
  have y2 := bt_nat s 2
  have y3 := bt_nat s 3
  have k0 := (s.data.toList.getD 0 0).toNat_lt
  have k1 := (s.data.toList.getD 1 0).toNat_lt
  have k2 := (s.data.toList.getD 2 0).toNat_lt
  have k3 := (s.data.toList.getD 3 0).toNat_lt
  generalize (s.data.toList.getD 0 0).toNat = b0 at *
  generalize (s.data.toList.getD 1 0).toNat = b1 at *
  generalize (s.data.toList.getD 2 0).toNat = b2 at *
  generalize (s.data.toList.getD 3 0).toNat = b3 at *
  have e0 : bt s 0 = (b0 : Int) := y0
  clear y0
  have e1 : bt s 1 = (b1 : Int) := y1
  clear y1
  have e2 : bt s 2 = (b2 : Int) := y2
  clear y2
  have e3 : bt s 3 = (b3 : Int) := y3
  clear y3
  have w0 : wrap64 (b0 : Int) = (b0 : Int) := wrap_id (by omega) (by omega)
  have W0 := Lib.hid w0
  clear w0
  refine ev_eight fun m => ?_
  by_cases c0 : b0 < 128
  · have D : Lib.decodeN s.size b0 b1 b2 b3 = (b0, 1) := by unfold Lib.decodeN; rw [if_pos c0]
    rw [D]
    simp only [chancelref01_size.f, e0, W0.out]
    rw [if_pos (by omega), if_pos (by omega), wrap32_id (x := (b0 : Int)) (by omega) (by omega)]; rfl
  by_cases c1 : b0 < 192
  · have D : Lib.decodeN s.size b0 b1 b2 b3 = (65533, 1) := by unfold Lib.decodeN; rw [if_neg c0, if_neg (by omega), if_neg (by omega), if_neg (by omega)]
    simp only [chancelref01_size.f, chancelref01_size.j0, chancelref01_size.j1, e0, W0.out, Bool.false_eq_true, if_false]
    rw [D, if_pos (by omega), if_neg (by omega), if_neg (by omega), if_neg (by omega), if_neg (by omega)]; exact bad_eq
  by_cases c2 : b0 < 224
  · have d : decide ((b0 : Int) < 224) = true := by simp; omega
    simp only [chancelref01_size.f, chancelref01_size.j0, e0, W0.out, d, if_true]
    rw [if_pos (by omega), if_neg (by omega), if_pos (by omega), wrap_id (x := (b0 : Int) - 192) (by omega) (by omega)]
    exact size_2 s b0 b1 b2 b3 (by omega) c2 k1 k2 k3 e1 hs (m + 1)
  by_cases c3 : b0 < 240
  · have d : decide ((b0 : Int) < 224) = false := by simp; omega
    have d2 : decide ((b0 : Int) < 240) = true := by simp; omega
    simp only [chancelref01_size.f, chancelref01_size.j0, chancelref01_size.j1, e0, W0.out, d, d2, if_true, Bool.false_eq_true, if_false]
    rw [if_pos (by omega), if_neg (by omega), if_pos (by omega), if_pos (by omega), wrap_id (x := (b0 : Int) - 224) (by omega) (by omega)]
    exact size_3 s b0 b1 b2 b3 (by omega) c3 k1 k2 k3 e1 e2 hs m
  have d : decide ((b0 : Int) < 224) = false := by simp; omega
  have d2 : decide ((b0 : Int) < 240) = false := by simp; omega
  by_cases c4 : b0 < 248
  · simp only [chancelref01_size.f, chancelref01_size.j0, chancelref01_size.j1, e0, W0.out, d, d2, Bool.false_eq_true, if_false]
    rw [if_pos (by omega), if_neg (by omega), if_pos (by omega), if_pos (by omega), if_pos (by omega), if_pos (by omega), wrap_id (x := (b0 : Int) - 240) (by omega) (by omega)]
    exact size_4 s b0 b1 b2 b3 (by omega) c4 k1 k2 k3 e1 e2 e3 hs m
  · have D : Lib.decodeN s.size b0 b1 b2 b3 = (65533, 1) := by unfold Lib.decodeN; rw [if_neg c0, if_neg (by omega), if_neg (by omega), if_neg (by omega)]
    simp only [chancelref01_size.f, chancelref01_size.j0, chancelref01_size.j1, e0, W0.out, d, d2, Bool.false_eq_true, if_false]
    rw [D, if_pos (by omega), if_neg (by omega), if_pos (by omega), if_pos (by omega), if_pos (by omega), if_neg (by omega)]; exact bad_eq
end Go.Proofs.YtdbdcnpajeflkaaDoor.Rope
