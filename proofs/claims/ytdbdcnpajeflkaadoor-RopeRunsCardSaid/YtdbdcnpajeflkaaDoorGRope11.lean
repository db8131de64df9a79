/- The walks of the laws' own has and of: a rope is just the text that it should be. Conditions: texts of at most 2^40 bytes. -/
import Derived.Test.YtdbdcnpajeflkaaDoorGRopeU12
namespace Go.Proofs.YtdbdcnpajeflkaaDoor.Rope
open Go.RowKit Go.Proofs.YtdbdcnpajeflkaaDoor.PRopeRuns Go.Proofs.YtdbdcnpajeflkaaDoorW.PrintWords Go.Proofs.YtdbdcnpajeflkaaDoorW.PrintLast Go.Proofs.YtdbdcnpajeflkaaDoorW.PrintMore
set_option linter.unusedVariables false
set_option linter.unusedSimpArgs false
theorem below_drawn {w w' : World} (h : Drawn0 w w') : Below w.heap.size w w' := by
  obtain ⟨n, rfl⟩ := h
  exact pw_below_drewN (Below.refl _ _) n
/-- A rope of these letters. -/
structure Is (w : World) (v : Value) (t : Option T) (cs : List (List UInt8)) : Prop where
  r : IsR w v t
  g : GoodO t cs
  z : bytesO t ≤ 1099511627776
theorem Is.below {w w1 : World} {v : Value} {t : Option T} {cs : List (List UInt8)} (h : Is w v t cs) (hb : Below w.heap.size w w1) : Is w1 v t cs := ⟨h.r.below hb, h.g, h.z⟩
theorem text_eq {t : Option T} {cs : List (List UInt8)} (h : GoodO t cs) {s : ByteArray} (hs : s.data.toList = cs.flatten) : s = textO t := by
  apply ByteArray.ext
  apply Array.ext'
  rw [hs, ← h.text]
  rfl
set_option maxRecDepth 100000 in
set_option maxHeartbeats 1000000 in
theorem has_calls (t : Option T) (cs : List (List UInt8)) (v : Value) (s : ByteArray) (w : World) (h : Is w v t cs) (hs : s.data.toList = cs.flatten) :
    Calls Tryd.prog 11 #[v, .string s] w fun e w' => e = .returned (.bool true) ∧ Below w.heap.size w w' := by
  have es := text_eq h.g hs
  have hsz : s.size = bytesO t := by rw [es, ← toList_size]; exact textL_length t
  have hz := h.z
  obtain ⟨k1, hk1⟩ := Ev.rounds (Count_ev h.g.letts hs (by omega))
  obtain ⟨k2, hk2⟩ := Ev.rounds (Laid_ev h.g h.z)
  rw [← es] at hk2
  have hr := h.g.runes
  have HR := Lib.hid h.r
  have HN := Lib.hid h.g.ne
  have HK1 := Lib.hid hk1
  have HK2 := Lib.hid hk2
  have d1 : ((runesO t : Int) == (cs.length : Int)) = true := by simp; omega
  have d2 : ((bytesO t : Int) == (s.size : Int)) = true := by simp; omega
  have ES := Lib.hid es
  have d4 : ((textO t).toList == s.toList) = true := by rw [← es]; simp
  clear h hs hsz hk1 hk2 hr es
  go_enter Tryd.func11, Tryd.ntmps11
  go_wp2_with fail
  (go_at_call 9; refine (text_calls t v _ HR.out HN.out hz).mono ?_; rintro e w1 ⟨rfl, hb1⟩)
  have H1 := Lib.hid hb1
  clear hb1
  go_wp2_with fail
  (go_at_call 26; refine (len_calls t v _ (HR.out.below H1.out)).mono ?_; rintro e w2 ⟨rfl, rfl⟩)
  go_wp2_with fail
  (go_at_call 27; refine (chancelref01_Count.calls k1 s _ _ HK1.out).mono ?_; rintro e w2 ⟨rfl, hb2⟩)
  have H2 := Lib.hid (below_step H1.out hb2)
  clear hb2
  go_wp2_with fail
  (go_at_call 28; refine (bytes_calls t v _ (HR.out.below H2.out)).mono ?_; rintro e w3 ⟨rfl, rfl⟩)
  go_wp2_with fail
  (go_at_call 24; refine (parts_calls t v _ (HR.out.below H2.out) HN.out hz).mono ?_; rintro e w3 ⟨v3, rfl, k3, hb3⟩)
  have H3 := Lib.hid (below_step H2.out hb3)
  obtain ⟨A3, c3, e3, l3, r3⟩ := Kd.R_reads k3
  subst e3
  have R3 := Lib.hid r3
  have L3 := Lib.hid l3
  clear hb3 k3 r3 l3
  go_wp2_with fail
  (go_at_call 30; refine (height_calls t v _ (HR.out.below H3.out)).mono ?_; rintro e w4 ⟨rfl, rfl⟩)
  go_wp2_with fail
  (go_at_call 29; refine (chancelref02_Laid.calls k2 A3 c3 (partsO t) s _ true _ R3.out L3.out HK2.out).mono ?_; rintro e w4 ⟨rfl, hd4⟩)
  have H4 := Lib.hid (below_step H3.out (below_drawn hd4))
  clear hd4
  go_wp2
  go_ret
  exact ⟨rfl, H4.out⟩
/-- What New tells of a text. -/
theorem new_calls (s : ByteArray) (w : World) (hs : s.size ≤ 1099511627776) (hT : Tabs w) {cs : List (List UInt8)} (hl : Letts cs) (h : s.data.toList = cs.flatten) :
    Calls Tryd.prog 8 #[.string s] w fun e w' => ∃ v, e = .returned (.tuple #[v, .bool true]) ∧ Is w' v (newO s) cs ∧ Below w.heap.size w w' := by
  have hv : Lib.validD s.data.toList = true := (validD_iff _).2 ⟨cs, hl, h⟩
  have g := newL_good hl h
  have g2 := newO_good hl h
  have hb := g2.bytes
  rw [← h, toList_size] at hb
  refine (new_right s w hs hT hv g.ne (by rw [g.sum, ← h, toList_size])).mono ?_
  rintro e w' ⟨v, rfl, hr, hB⟩
  refine ⟨v, rfl, ⟨?_, g2, by omega⟩, hB⟩
  unfold newO
  rw [if_pos hv]
  exact hr
theorem of_calls (s : ByteArray) (w : World) (hs : s.size ≤ 1099511627776) (hT : Tabs w) {cs : List (List UInt8)} (hl : Letts cs) (h : s.data.toList = cs.flatten) :
    Calls Tryd.prog 13 #[.string s] w fun e w' => ∃ v, e = .returned v ∧ Is w' v (newO s) cs ∧ Below w.heap.size w w' := by
  go_enter Tryd.func13, Tryd.ntmps13
  go_wp2_with (go_at_call 8; refine (new_calls s _ hs hT hl h).mono ?_; rintro e w1 ⟨v, rfl, hi, hb⟩; have HI := Lib.hid hi; have HB := Lib.hid hb; clear hi hb)
  go_ret
  exact ⟨v, rfl, HI.out, HB.out⟩
end Go.Proofs.YtdbdcnpajeflkaaDoor.Rope
