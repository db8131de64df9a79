/- The walks of split, Put, Cut, Drop, Len, Bytes and Height: what they make of a rope. Conditions: texts of at most 2^40 bytes. -/
import Derived.Test.YtdbdcnpajeflkaaDoorGRope4
namespace Go.Proofs.YtdbdcnpajeflkaaDoor.Rope
open Go.RowKit Go.Proofs.YtdbdcnpajeflkaaDoorW.PrintWords Go.Proofs.YtdbdcnpajeflkaaDoorW.PrintLast Go.Proofs.YtdbdcnpajeflkaaDoorW.PrintMore
set_option linter.unusedVariables false
set_option linter.unusedSimpArgs false
theorem joinO_calls (a b : Option T) (va vb : Value) (w : World) (ha : IsR w va a) (hb : IsR w vb b) (na : NeO a) (nb : NeO b) (hz : bytesO a + bytesO b ≤ 1099511627776) :
    Calls Tryd.prog 12 #[va, vb] w (Ret (joinO a b) w) := by
  cases a with
  | none =>
    have e : va = .pointer none := ha
    subst e
    clear ha
    have HB := Lib.hid hb
    clear hb
    go_enter Tryd.func12, Tryd.ntmps12
    go_wp2
    go_ret
    exact ⟨_, rfl, HB.out, Below.refl _ _⟩
  | some a =>
    obtain ⟨ba, rfl, hta⟩ := ha
    cases b with
    | none =>
      have e : vb = .pointer none := hb
      subst e
      have HB := Lib.hid hta
      clear hta hb
      go_enter Tryd.func12, Tryd.ntmps12
      go_wp2
      go_ret
      exact ⟨_, rfl, ⟨ba, rfl, HB.out⟩, Below.refl _ _⟩
    | some b =>
      obtain ⟨bb, rfl, htb⟩ := hb
      refine (join_calls _ a b ba bb w (Nat.le_refl _) hta htb na nb hz).mono ?_
      rintro e w' ⟨c, rfl, hc, hB⟩
      exact ⟨_, rfl, ⟨c, rfl, hc⟩, hB⟩
theorem joinO_bytes (a b : Option T) : bytesO (joinO a b) = bytesO a + bytesO b := by
  cases a <;> cases b <;> simp [joinO, bytesO, join_bytes]
theorem joinO_Ne {a b : Option T} (ha : NeO a) (hb : NeO b) : NeO (joinO a b) := by
  cases a <;> cases b <;> first | exact ha | exact hb | exact join_Ne ha hb
/-- What split makes. -/
def splitT : T → Int → Option T × Option T
  | .leaf s, at_ => if at_ ≤ 0 then (none, some (.leaf s)) else if (Lib.runeCount s : Int) ≤ at_ then (some (.leaf s), none) else (some (.leaf (s.extract 0 (byteAt s at_))), some (.leaf (s.extract (byteAt s at_) s.size)))
  | .node l r, at_ => if at_ ≤ 0 then (none, some (.node l r)) else if ((T.node l r).runes : Int) ≤ at_ then (some (.node l r), none) else
      if at_ < (l.runes : Int) then ((splitT l at_).1, joinO (splitT l at_).2 (some r)) else (joinO (some l) (splitT r (at_ - (l.runes : Int))).1, (splitT r (at_ - (l.runes : Int))).2)
def splitO : Option T → Int → Option T × Option T
  | none, _ => (none, none)
  | some t, at_ => splitT t at_
theorem byteFrom_le (s : ByteArray) : ∀ f k pos, byteFrom s f k pos ≤ s.size
  | 0, _, _ => Nat.le_refl _
  | f + 1, k, pos => by
    unfold byteFrom
    split
    · split
      · omega
      · exact byteFrom_le s f _ _
    · exact Nat.le_refl _
theorem byteAt_le (s : ByteArray) (a : Int) : byteAt s a ≤ s.size := by
  unfold byteAt; split
  · omega
  · exact byteFrom_le _ _ _ _
theorem byteFrom_ge (s : ByteArray) : ∀ f k pos, pos ≤ s.size → pos ≤ byteFrom s f k pos
  | 0, _, pos, h => h
  | f + 1, k, pos, h => by
    unfold byteFrom
    split
    · split
      · omega
      · by_cases h2 : pos + (Utf8.decode s pos).2 ≤ s.size
        · have := byteFrom_ge s f (k - 1) (pos + (Utf8.decode s pos).2) h2; omega
        · have e : byteFrom s f (k - 1) (pos + (Utf8.decode s pos).2) = s.size := by cases f <;> simp [byteFrom]; intro h3; omega
          rw [e]; exact h
    · exact h
theorem byteFrom_lt (s : ByteArray) : ∀ f k pos, k < Lib.runeCountFrom s f pos → byteFrom s f k pos < s.size
  | 0, k, pos, h => by simp [Lib.runeCountFrom] at h
  | f + 1, k, pos, h => by
    unfold Lib.runeCountFrom at h
    unfold byteFrom
    split at h
    · rename_i hp
      rw [if_pos hp]
      split
      · exact hp
      · exact byteFrom_lt s f _ _ (by omega)
    · omega
theorem byteAt_mid {s : ByteArray} {a : Int} (h0 : ¬ a ≤ 0) (h1 : ¬ (Lib.runeCount s : Int) ≤ a) : 0 < byteAt s a ∧ byteAt s a < s.size := by
  have hlt : a.toNat < Lib.runeCountFrom s s.size 0 := by have : Lib.runeCount s = Lib.runeCountFrom s s.size 0 := rfl; omega
  have hs : 0 < s.size := by have := Lib.runeCountFrom_le s s.size 0; omega
  unfold byteAt
  rw [if_neg h0]
  refine ⟨?_, byteFrom_lt _ _ _ _ hlt⟩
  obtain ⟨f, hf⟩ : ∃ f, s.size = f + 1 := ⟨s.size - 1, by omega⟩
  have hb := byteFrom_lt _ _ _ _ hlt
  rw [hf, byteFrom, if_pos (by omega), if_neg (by omega)] at hb ⊢
  have hw := Lib.decode_width_pos s 0 hs
  by_cases h2 : 0 + (Utf8.decode s 0).2 ≤ s.size
  · have := byteFrom_ge s f (a.toNat - 1) _ h2; omega
  · have e : byteFrom s f (a.toNat - 1) (0 + (Utf8.decode s 0).2) = s.size := by cases f <;> simp [byteFrom]; intro h3; omega
    omega
theorem splitT_both : ∀ (t : T) (a : Int), bytesO (splitT t a).1 + bytesO (splitT t a).2 = t.bytes ∧ (t.Ne → NeO (splitT t a).1 ∧ NeO (splitT t a).2)
  | .leaf s, a => by
    unfold splitT
    by_cases h0 : a ≤ 0
    · rw [if_pos h0]; exact ⟨by simp [bytesO], fun h => ⟨trivial, h⟩⟩
    · by_cases h1 : (Lib.runeCount s : Int) ≤ a
      · rw [if_neg h0, if_pos h1]; exact ⟨by simp [bytesO], fun h => ⟨h, trivial⟩⟩
      · rw [if_neg h0, if_neg h1]
        have := byteAt_mid h0 h1
        refine ⟨?_, fun h => ⟨?_, ?_⟩⟩ <;> simp only [bytesO, NeO, T.bytes, T.Ne, ByteArray.size_extract] <;> omega
  | .node l r, a => by
    unfold splitT
    by_cases h0 : a ≤ 0
    · rw [if_pos h0]; exact ⟨by simp [bytesO], fun h => ⟨trivial, h⟩⟩
    · by_cases h1 : ((T.node l r).runes : Int) ≤ a
      · rw [if_neg h0, if_pos h1]; exact ⟨by simp [bytesO], fun h => ⟨h, trivial⟩⟩
      · rw [if_neg h0, if_neg h1]
        by_cases h2 : a < (l.runes : Int)
        · rw [if_pos h2]
          have k := splitT_both l a
          refine ⟨?_, fun h => ⟨(k.2 h.1).1, joinO_Ne (k.2 h.1).2 h.2⟩⟩
          show bytesO _ + bytesO (joinO _ _) = l.bytes + r.bytes
          rw [joinO_bytes, ← k.1]; simp only [bytesO]; omega
        · rw [if_neg h2]
          have k := splitT_both r (a - (l.runes : Int))
          refine ⟨?_, fun h => ⟨joinO_Ne h.1 (k.2 h.2).1, (k.2 h.2).2⟩⟩
          show bytesO (joinO _ _) + bytesO _ = l.bytes + r.bytes
          rw [joinO_bytes, ← k.1]; simp only [bytesO]; omega
theorem splitO_bytes (t : Option T) (a : Int) : bytesO (splitO t a).1 + bytesO (splitO t a).2 = bytesO t := by
  cases t with
  | none => rfl
  | some t => exact (splitT_both t a).1
theorem splitO_Ne {t : Option T} (h : NeO t) (a : Int) : NeO (splitO t a).1 ∧ NeO (splitO t a).2 := by
  cases t with
  | none => exact ⟨trivial, trivial⟩
  | some t => exact (splitT_both t a).2 h
/-- Two ropes come back. -/
def Ret2 (p : Option T × Option T) (w : World) (e : Ending) (w' : World) : Prop := ∃ v1 v2, e = .returned (.tuple #[v1, v2]) ∧ IsR w' v1 p.1 ∧ IsR w' v2 p.2 ∧ Below w.heap.size w w'
theorem split_low (t : Option T) (v : Value) (a : Int) (w : World) (h : IsR w v t) (h0 : a ≤ 0) :
    Calls Tryd.prog 33 #[v, .int .i64 a] w (Ret2 (none, t) w) := by
  have hd : decide (a ≤ 0) = true := by simp; omega
  cases t with
  | none =>
    have e : v = .pointer none := h
    subst e
    clear h
    go_enter Tryd.func33, Tryd.ntmps33
    go_wp2
    go_ret2
    exact ⟨_, _, rfl, rfl, rfl, Below.refl _ _⟩
  | some t =>
    obtain ⟨b, rfl, h⟩ := h
    have H := Lib.hid h
    clear h
    go_enter Tryd.func33, Tryd.ntmps33
    go_wp2
    go_ret2
    exact ⟨_, _, rfl, rfl, ⟨b, rfl, H.out⟩, Below.refl _ _⟩
theorem split_nil (v : Value) (a : Int) (w : World) (h : IsR w v none) :
    Calls Tryd.prog 33 #[v, .int .i64 a] w (Ret2 (none, none) w) := by
  have e : v = .pointer none := h
  subst e
  clear h
  go_enter Tryd.func33, Tryd.ntmps33
  go_wp2
  all_goals
    go_ret2
    exact ⟨_, _, rfl, rfl, rfl, Below.refl _ _⟩
theorem split_high (t : T) (b : Nat) (a : Int) (w : World) (h : IsT w t b) (h0 : ¬ a ≤ 0) (h1 : (t.runes : Int) ≤ a) :
    Calls Tryd.prog 33 #[.pointer (some ⟨b, 0, none⟩), .int .i64 a] w (Ret2 (some t, none) w) := by
  have hd : decide (a ≤ 0) = false := by simp; omega
  have hd2 : decide ((t.runes : Int) ≤ a) = true := by simp; omega
  obtain ⟨l, r, c⟩ := h.cells
  have c4 : w.cell? ⟨b, 4, none⟩ = some (.int .i64 (t.runes : Int)) := blk_cell c 4
  have H := Lib.hid h
  clear h c
  go_enter Tryd.func33, Tryd.ntmps33
  go_wp2
  go_ret2
  exact ⟨_, _, rfl, ⟨b, rfl, H.out⟩, rfl, Below.refl _ _⟩
set_option maxRecDepth 100000 in
set_option maxHeartbeats 1000000 in
theorem split_leaf (s : ByteArray) (b : Nat) (a : Int) (w : World) (h : IsT w (.leaf s) b) (h0 : ¬ a ≤ 0) (h1 : ¬ (Lib.runeCount s : Int) ≤ a) (hz : s.size ≤ 1099511627776) :
    Calls Tryd.prog 33 #[.pointer (some ⟨b, 0, none⟩), .int .i64 a] w (Ret2 (some (.leaf (s.extract 0 (byteAt s a))), some (.leaf (s.extract (byteAt s a) s.size))) w) := by
  have hd : decide (a ≤ 0) = false := by simp; omega
  have hd2 : decide ((Lib.runeCount s : Int) ≤ a) = false := by simp; omega
  have hz2 : s.size ≤ 4611686018427387904 := by omega
  have bm := byteAt_mid h0 h1
  have c4 : w.cell? ⟨b, 4, none⟩ = some (.int .i64 (Lib.runeCount s : Int)) := blk_cell h 4
  have c3 : w.cell? ⟨b, 3, none⟩ = some (.int .i64 0) := blk_cell h 3
  have c0 : w.cell? ⟨b, 0, none⟩ = some (.string s) := blk_cell h 0
  have C0 := Lib.hid c0
  clear h
  go_enter Tryd.func33, Tryd.ntmps33
  go_wp2_with fail
  (go_at_call 43; refine (letters_Byte s a _ hz2).mono ?_; rintro e w1 ⟨rfl, hb⟩)
  generalize byteAt s a = n at *
  have x1 : (s.extract 0 n).size ≤ 1099511627776 := by rw [ByteArray.size_extract]; omega
  have x2 : (s.extract n s.size).size ≤ 1099511627776 := by rw [ByteArray.size_extract]; omega
  have y0 : (0 : Int) ≤ (n : Int) := by omega
  have y1 : (n : Int) ≤ (s.size : Int) := by omega
  have y2 : (n : Int).toNat = n := by omega
  have X1 := Lib.hid x1
  have X2 := Lib.hid x2
  have QS := Lib.hid (show JS w ⟨b, 0, none⟩ ⟨b, 0, none⟩ (.string s) (.string s) w1 from ⟨pw_cell_below hb C0.out, pw_cell_below hb C0.out, hb⟩)
  clear x1 x2 hb c0 c3 c4
  go_wp2
  go_region_held3 (fun w' => JS w ⟨b, 0, none⟩ ⟨b, 0, none⟩ (.string s) (.string s) w')
    (first | assumption | exact HSb.out | exact HSa.out | exact QS.out.next (by repeat (first | exact Below.refl _ _ | apply pw_below_drewN | apply Below.drew)))
    (first
      | (go_at_call 21; (with_reducible refine (leaf_calls (s.extract 0 n) _ X1.out).mono ?_); rintro e wa ⟨bA, rfl, hr, hB⟩; have HSa := Lib.hid (JS.next (w := w) (p := ⟨b, 0, none⟩) (q := ⟨b, 0, none⟩) (u := .string s) (v := .string s) (by assumption) hB); have HRa := Lib.hid hr; have HBa := Lib.hid hB; clear hr hB)
      | (go_at_call 21; (with_reducible refine (leaf_calls (s.extract n s.size) _ X2.out).mono ?_); rintro e wb ⟨bB, rfl, hr, hB⟩; have HSb := Lib.hid (JS.next (w := w) (p := ⟨b, 0, none⟩) (q := ⟨b, 0, none⟩) (u := .string s) (v := .string s) (by assumption) hB); have HRb := Lib.hid hr; have HBb := Lib.hid hB; clear hr hB))
  all_goals
    go_wp2
    go_ret2
    refine ⟨_, _, rfl, ⟨bA, rfl, ?_⟩, ⟨bB, rfl, ?_⟩, ?_⟩
    · first | exact HRa.out | exact HRa.out.below HBb.out
    · first | exact HRb.out | exact HRb.out.below HBa.out
    · first | exact HSb.out.2.2 | exact HSa.out.2.2
end Go.Proofs.YtdbdcnpajeflkaaDoor.Rope
