/- The walks of the laws RopeNew, RopeJoin, RopePut and RopeCut: each answers true. Conditions: Go's two tables of utf8 as they are laid. -/
import Derived.Test.YtdbdcnpajeflkaaDoorGRope11
import Derived.Lib.TrimAscii
namespace Go.Proofs.YtdbdcnpajeflkaaDoor.Rope
open Go.RowKit Go.Proofs.YtdbdcnpajeflkaaDoor.PRopeRuns Go.Proofs.YtdbdcnpajeflkaaDoorW.PrintWords Go.Proofs.YtdbdcnpajeflkaaDoorW.PrintLast Go.Proofs.YtdbdcnpajeflkaaDoorW.PrintMore
set_option linter.unusedVariables false
set_option linter.unusedSimpArgs false
theorem Is.bytes {w : World} {v : Value} {t : Option T} {cs : List (List UInt8)} (h : Is w v t cs) : bytesO t = cs.flatten.length := h.g.bytes
/-- A rope comes back. -/
def RetI (t : Option T) (cs : List (List UInt8)) (w : World) (e : Ending) (w' : World) : Prop := ∃ v, e = .returned v ∧ Is w' v t cs ∧ Below w.heap.size w w'
theorem join_is {w : World} {a b : Option T} {va vb : Value} {ca cb : List (List UInt8)} (ha : Is w va a ca) (hb : Is w vb b cb) (hz : bytesO a + bytesO b ≤ 1099511627776) :
    Calls Tryd.prog 12 #[va, vb] w (RetI (joinO a b) (ca ++ cb) w) := by
  refine (joinO_calls a b va vb w ha.r hb.r ha.g.ne hb.g.ne hz).mono ?_
  rintro e w' ⟨v, rfl, h, hB⟩
  exact ⟨v, rfl, ⟨h, joinO_good ha.g hb.g, by rw [joinO_bytes]; exact hz⟩, hB⟩
theorem put_is {w : World} {a b : Option T} {va vb : Value} {ca cb : List (List UInt8)} (at_ : Int) (ha : Is w va a ca) (hb : Is w vb b cb) (hz : bytesO a + bytesO b ≤ 1099511627776) :
    Calls Tryd.prog 14 #[va, .int .i64 at_, vb] w (RetI (putO a at_ b) (ca.take at_.toNat ++ cb ++ ca.drop at_.toNat) w) := by
  refine (put_calls a b va vb at_ w ha.r hb.r ha.g.ne hb.g.ne hz).mono ?_
  rintro e w' ⟨v, rfl, h, hB⟩
  refine ⟨v, rfl, ⟨h, putO_good ha.g hb.g at_, ?_⟩, hB⟩
  unfold putO
  rw [joinO_bytes, joinO_bytes]
  have := splitO_bytes a at_
  omega
theorem cut_is {w : World} {a : Option T} {va : Value} {ca : List (List UInt8)} (f t : Int) (ha : Is w va a ca) :
    Calls Tryd.prog 16 #[va, .int .i64 f, .int .i64 t] w (RetI (cutO a f t) ((ca.take t.toNat).drop f.toNat) w) := by
  refine (cut_calls a va f t w ha.r ha.g.ne ha.z).mono ?_
  rintro e w' ⟨v, rfl, h, hB⟩
  refine ⟨v, rfl, ⟨h, cutO_good ha.g f t, ?_⟩, hB⟩
  have hz := ha.z
  unfold cutO
  split
  · exact Nat.zero_le _
  · have h1 := splitO_bytes a t
    have h2 := splitO_bytes (splitO a t).1 (mx f 0)
    omega
theorem drop_is {w : World} {a : Option T} {va : Value} {ca : List (List UInt8)} (f t : Int) (ha : Is w va a ca) (hz : bytesO a + bytesO a ≤ 1099511627776) :
    Calls Tryd.prog 18 #[va, .int .i64 f, .int .i64 t] w (RetI (dropO a f t) (if t.toNat ≤ f.toNat then ca else ca.take f.toNat ++ ca.drop t.toNat) w) := by
  refine (drop_calls a va f t w ha.r ha.g.ne ha.z hz).mono ?_
  rintro e w' ⟨v, rfl, h, hB⟩
  refine ⟨v, rfl, ⟨h, dropO_good ha.g f t, ?_⟩, hB⟩
  unfold dropO
  split
  · exact ha.z
  · rw [joinO_bytes]
    have h1 := splitO_bytes a t
    have h2 := splitO_bytes a (mx f 0)
    omega
theorem text_is {w : World} {a : Option T} {va : Value} {ca : List (List UInt8)} (ha : Is w va a ca) (s : ByteArray) (hs : s.data.toList = ca.flatten) :
    Calls Tryd.prog 9 #[va] w fun e w' => e = .returned (.string s) ∧ Below w.heap.size w w' := by
  rw [text_eq ha.g hs]
  exact text_calls a va w ha.r ha.g.ne ha.z
theorem nil_is (w : World) : Is w (.pointer none) none [] := ⟨rfl, rfl, Nat.zero_le _⟩
theorem refRight_calls (s : ByteArray) (w : World) (hs : s.size ≤ 1099511627776) : Calls Tryd.prog 10 #[.string s] w fun e w' => e = .returned (.bool (Lib.validD s.data.toList)) ∧ Below w.heap.size w w' := by
  obtain ⟨k, hk⟩ := Go.Proofs.YtdbdcnpajeflkaaDoorW.PrintWords.Ev.rounds (Right_ev s hs)
  refine (chancelref01_Right.calls k s _ w hk).mono ?_
  rintro e w' ⟨rfl, hd⟩
  exact ⟨rfl, below_drawn hd⟩
/-- Bytes below 128: letters of one byte. -/
def one (l : List UInt8) : List (List UInt8) := l.map fun b => [b]
theorem one_letts {l : List UInt8} (h : ∀ b ∈ l, b.toNat < 128) : Letts (one l) := by
  intro c hc
  obtain ⟨b, hb, rfl⟩ := List.mem_map.1 hc
  have e := Lib.decodeL_ascii b [] (h b hb)
  refine ⟨by rw [e]; rfl, by simp, ?_⟩
  rw [e]
  have := h b hb
  intro h2
  have h3 : b.toNat = 65533 := h2.1
  omega
theorem one_flat : ∀ l : List UInt8, l = (one l).flatten
  | [] => rfl
  | b :: r => by
    have := one_flat r
    simp only [one, List.map_cons, List.flatten_cons] at *
    rw [← this]; rfl

set_option maxRecDepth 100000 in
set_option maxHeartbeats 2000000 in
theorem ropeJoin_early0 (s t : ByteArray) (w : World) (hT : Tabs w) (h1 : 3000 < s.size) (h1m : s.size ≤ 9223372036854775807) :
    Calls Tryd.prog 4 #[.string s, .string t] w fun e w' => e = .returned (.bool true) ∧ Below w.heap.size w w' := by

  have HT := Lib.hid hT
  clear hT
  have hds : decide ((3000 : Int) < (s.size : Int)) = true := by simp; omega
  go_enter Tryd.func4, Tryd.ntmps4
  go_wp2_with fail
  (go_at_call 13; refine (of_calls (⟨#[97]⟩ : ByteArray) _ (by decide) HT.out (one_letts (l := [97]) (by decide)) (one_flat [97])).mono ?_; rintro e w1 ⟨v1, rfl, k1, hb1⟩)
  have IA := Lib.hid k1
  have B1 := Lib.hid hb1
  have H1 := Lib.hid (hb1)
  clear k1 hb1
  go_wp2_with fail
  (go_at_call 13; refine (of_calls (⟨#[98]⟩ : ByteArray) _ (by decide) (HT.out.below H1.out) (one_letts (l := [98]) (by decide)) (one_flat [98])).mono ?_; rintro e w2 ⟨v2, rfl, k2, hb2⟩)
  have IB := Lib.hid k2
  have B2 := Lib.hid hb2
  have H2 := Lib.hid (below_step H1.out hb2)
  clear k2 hb2
  go_wp2_with fail
  (go_at_call 12; refine (join_is (IA.out.below B2.out) IB.out (by rw [Is.bytes (IA.out.below B2.out), Is.bytes IB.out]; decide)).mono ?_; rintro e w3 ⟨v3, rfl, k3, hb3⟩)
  have IC := Lib.hid k3
  have B3 := Lib.hid hb3
  have H3 := Lib.hid (below_step H2.out hb3)
  clear k3 hb3
  go_wp2_with fail
  (go_at_call 9; refine (text_is IC.out (⟨#[97, 98]⟩ : ByteArray) (by decide)).mono ?_; rintro e w4 ⟨rfl, hb4⟩)
  have B4 := Lib.hid hb4
  have H4 := Lib.hid (below_step H3.out hb4)
  clear hb4
  go_wp2
  go_ret
  exact ⟨rfl, H4.out⟩

set_option maxRecDepth 100000 in
set_option maxHeartbeats 2000000 in
theorem ropeJoin_early1 (s t : ByteArray) (w : World) (hT : Tabs w) (h1 : s.size ≤ 3000) (h2 : 3000 < t.size) (h2m : t.size ≤ 9223372036854775807) :
    Calls Tryd.prog 4 #[.string s, .string t] w fun e w' => e = .returned (.bool true) ∧ Below w.heap.size w w' := by

  have HT := Lib.hid hT
  clear hT
  have hds : decide ((3000 : Int) < (s.size : Int)) = false := by simp; omega
  have hdt : decide ((3000 : Int) < (t.size : Int)) = true := by simp; omega
  go_enter Tryd.func4, Tryd.ntmps4
  go_wp2_with fail
  (go_at_call 13; refine (of_calls (⟨#[97]⟩ : ByteArray) _ (by decide) HT.out (one_letts (l := [97]) (by decide)) (one_flat [97])).mono ?_; rintro e w1 ⟨v1, rfl, k1, hb1⟩)
  have IA := Lib.hid k1
  have B1 := Lib.hid hb1
  have H1 := Lib.hid (hb1)
  clear k1 hb1
  go_wp2_with fail
  (go_at_call 13; refine (of_calls (⟨#[98]⟩ : ByteArray) _ (by decide) (HT.out.below H1.out) (one_letts (l := [98]) (by decide)) (one_flat [98])).mono ?_; rintro e w2 ⟨v2, rfl, k2, hb2⟩)
  have IB := Lib.hid k2
  have B2 := Lib.hid hb2
  have H2 := Lib.hid (below_step H1.out hb2)
  clear k2 hb2
  go_wp2_with fail
  (go_at_call 12; refine (join_is (IA.out.below B2.out) IB.out (by rw [Is.bytes (IA.out.below B2.out), Is.bytes IB.out]; decide)).mono ?_; rintro e w3 ⟨v3, rfl, k3, hb3⟩)
  have IC := Lib.hid k3
  have B3 := Lib.hid hb3
  have H3 := Lib.hid (below_step H2.out hb3)
  clear k3 hb3
  go_wp2_with fail
  (go_at_call 9; refine (text_is IC.out (⟨#[97, 98]⟩ : ByteArray) (by decide)).mono ?_; rintro e w4 ⟨rfl, hb4⟩)
  have B4 := Lib.hid hb4
  have H4 := Lib.hid (below_step H3.out hb4)
  clear hb4
  go_wp2
  go_ret
  exact ⟨rfl, H4.out⟩

set_option maxRecDepth 100000 in
set_option maxHeartbeats 2000000 in
theorem ropeJoin_full (s t : ByteArray) (w : World) (hT : Tabs w) (h1 : s.size ≤ 3000) (h2 : t.size ≤ 3000) (hvs : Lib.validD s.data.toList = true) (hvt : Lib.validD t.data.toList = true) (cs ct : List (List UInt8)) (hls : Letts cs) (hes : s.data.toList = cs.flatten) (hlt : Letts ct) (het : t.data.toList = ct.flatten) :
    Calls Tryd.prog 4 #[.string s, .string t] w fun e w' => e = .returned (.bool true) ∧ Below w.heap.size w w' := by

  have HT := Lib.hid hT
  clear hT
  have hds : decide ((3000 : Int) < (s.size : Int)) = false := by simp; omega
  have hdt : decide ((3000 : Int) < (t.size : Int)) = false := by simp; omega
  have cRs : ∀ W, Calls Tryd.prog 10 #[.string s] W fun e w' => e = .returned (.bool true) ∧ Below W.heap.size W w' := fun W => by have := refRight_calls s W (by omega); rw [hvs] at this; exact this
  have CRs := Lib.hid cRs
  clear cRs hvs
  have cRt : ∀ W, Calls Tryd.prog 10 #[.string t] W fun e w' => e = .returned (.bool true) ∧ Below W.heap.size W w' := fun W => by have := refRight_calls t W (by omega); rw [hvt] at this; exact this
  have CRt := Lib.hid cRt
  clear cRt hvt
  have zs : bytesO (newO s) = s.size := by rw [(newO_good hls hes).bytes, ← hes, toList_size]
  have zt : bytesO (newO t) = t.size := by rw [(newO_good hlt het).bytes, ← het, toList_size]
  have HLs := Lib.hid hls
  have HEs := Lib.hid hes
  clear hls hes
  have HLt := Lib.hid hlt
  have HEt := Lib.hid het
  clear hlt het
  have hst : s.size + t.size ≤ 9223372036854775807 := by omega
  go_enter Tryd.func4, Tryd.ntmps4
  go_wp2_with fail
  (go_at_call 13; refine (of_calls (⟨#[97]⟩ : ByteArray) _ (by decide) HT.out (one_letts (l := [97]) (by decide)) (one_flat [97])).mono ?_; rintro e w1 ⟨v1, rfl, k1, hb1⟩)
  have IA := Lib.hid k1
  have B1 := Lib.hid hb1
  have H1 := Lib.hid (hb1)
  clear k1 hb1
  go_wp2_with fail
  (go_at_call 13; refine (of_calls (⟨#[98]⟩ : ByteArray) _ (by decide) (HT.out.below H1.out) (one_letts (l := [98]) (by decide)) (one_flat [98])).mono ?_; rintro e w2 ⟨v2, rfl, k2, hb2⟩)
  have IB := Lib.hid k2
  have B2 := Lib.hid hb2
  have H2 := Lib.hid (below_step H1.out hb2)
  clear k2 hb2
  go_wp2_with fail
  (go_at_call 12; refine (join_is (IA.out.below B2.out) IB.out (by rw [Is.bytes (IA.out.below B2.out), Is.bytes IB.out]; decide)).mono ?_; rintro e w3 ⟨v3, rfl, k3, hb3⟩)
  have IC := Lib.hid k3
  have B3 := Lib.hid hb3
  have H3 := Lib.hid (below_step H2.out hb3)
  clear k3 hb3
  go_wp2_with fail
  (go_at_call 9; refine (text_is IC.out (⟨#[97, 98]⟩ : ByteArray) (by decide)).mono ?_; rintro e w4 ⟨rfl, hb4⟩)
  have B4 := Lib.hid hb4
  have H4 := Lib.hid (below_step H3.out hb4)
  clear hb4
  go_wp2_with fail
  (go_at_call 10; refine (CRs.out _).mono ?_; rintro e w5 ⟨rfl, hb5⟩)
  have B5 := Lib.hid hb5
  have H5 := Lib.hid (below_step H4.out hb5)
  clear hb5
  go_wp2_with fail
  (go_at_call 10; refine (CRt.out _).mono ?_; rintro e w6 ⟨rfl, hb6⟩)
  have B6 := Lib.hid hb6
  have H6 := Lib.hid (below_step H5.out hb6)
  clear hb6
  go_wp2_with fail
  (go_at_call 13; refine (of_calls s _ (by omega) (HT.out.below H6.out) HLs.out HEs.out).mono ?_; rintro e w7 ⟨v7, rfl, k7, hb7⟩)
  have S := Lib.hid k7
  have B7 := Lib.hid hb7
  have H7 := Lib.hid (below_step H6.out hb7)
  clear k7 hb7
  go_wp2_with fail
  (go_at_call 13; refine (of_calls t _ (by omega) (HT.out.below H7.out) HLt.out HEt.out).mono ?_; rintro e w8 ⟨v8, rfl, k8, hb8⟩)
  have U := Lib.hid k8
  have B8 := Lib.hid hb8
  have H8 := Lib.hid (below_step H7.out hb8)
  clear k8 hb8
  go_wp2_with fail
  (go_at_call 12; refine (join_is (S.out.below B8.out) U.out (by omega)).mono ?_; rintro e w9 ⟨v9, rfl, k9, hb9⟩)
  have J := Lib.hid k9
  have B9 := Lib.hid hb9
  have H9 := Lib.hid (below_step H8.out hb9)
  clear k9 hb9
  go_wp2_with fail
  (go_at_call 11; refine (has_calls _ _ _ (s ++ t) _ J.out (by rw [app_data, HEs.out, HEt.out, List.flatten_append])).mono ?_; rintro e w10 ⟨rfl, hb10⟩)
  have B10 := Lib.hid hb10
  have H10 := Lib.hid (below_step H9.out hb10)
  clear hb10
  go_wp2_with fail
  (go_at_call 11; refine (has_calls _ _ _ s _ (((S.out.below B8.out).below B9.out).below B10.out) HEs.out).mono ?_; rintro e w11 ⟨rfl, hb11⟩)
  have B11 := Lib.hid hb11
  have H11 := Lib.hid (below_step H10.out hb11)
  clear hb11
  go_wp2_with fail
  (go_at_call 11; refine (has_calls _ _ _ t _ (((U.out.below B9.out).below B10.out).below B11.out) HEt.out).mono ?_; rintro e w12 ⟨rfl, hb12⟩)
  have B12 := Lib.hid hb12
  have H12 := Lib.hid (below_step H11.out hb12)
  clear hb12
  go_wp2_with fail
  (go_at_call 12; refine (join_is (((((S.out.below B8.out).below B9.out).below B10.out).below B11.out).below B12.out) (nil_is _) (by show _ + 0 ≤ _; omega)).mono ?_; rintro e w13 ⟨v13, rfl, k13, hb13⟩)
  have J1 := Lib.hid k13
  have B13 := Lib.hid hb13
  have H13 := Lib.hid (below_step H12.out hb13)
  clear k13 hb13
  go_wp2_with fail
  (go_at_call 11; refine (has_calls _ _ _ s _ J1.out (by rw [List.append_nil]; exact HEs.out)).mono ?_; rintro e w14 ⟨rfl, hb14⟩)
  have B14 := Lib.hid hb14
  have H14 := Lib.hid (below_step H13.out hb14)
  clear hb14
  go_wp2_with fail
  (go_at_call 12; refine (join_is (nil_is _) ((((((U.out.below B9.out).below B10.out).below B11.out).below B12.out).below B13.out).below B14.out) (by show 0 + _ ≤ _; omega)).mono ?_; rintro e w15 ⟨v15, rfl, k15, hb15⟩)
  have J2 := Lib.hid k15
  have B15 := Lib.hid hb15
  have H15 := Lib.hid (below_step H14.out hb15)
  clear k15 hb15
  go_wp2_with fail
  (go_at_call 11; refine (has_calls _ _ _ t _ J2.out (by rw [List.nil_append]; exact HEt.out)).mono ?_; rintro e w16 ⟨rfl, hb16⟩)
  have B16 := Lib.hid hb16
  have H16 := Lib.hid (below_step H15.out hb16)
  clear hb16
  go_wp2
  go_ret
  exact ⟨rfl, H16.out⟩

set_option maxRecDepth 100000 in
set_option maxHeartbeats 2000000 in
theorem ropeJoin_wrong0 (s t : ByteArray) (w : World) (hT : Tabs w) (h1 : s.size ≤ 3000) (h2 : t.size ≤ 3000) (hvs : Lib.validD s.data.toList = false) :
    Calls Tryd.prog 4 #[.string s, .string t] w fun e w' => e = .returned (.bool true) ∧ Below w.heap.size w w' := by

  have HT := Lib.hid hT
  clear hT
  have hds : decide ((3000 : Int) < (s.size : Int)) = false := by simp; omega
  have hdt : decide ((3000 : Int) < (t.size : Int)) = false := by simp; omega
  have cRs : ∀ W, Calls Tryd.prog 10 #[.string s] W fun e w' => e = .returned (.bool false) ∧ Below W.heap.size W w' := fun W => by have := refRight_calls s W (by omega); rw [hvs] at this; exact this
  have CRs := Lib.hid cRs
  clear cRs hvs
  go_enter Tryd.func4, Tryd.ntmps4
  go_wp2_with fail
  (go_at_call 13; refine (of_calls (⟨#[97]⟩ : ByteArray) _ (by decide) HT.out (one_letts (l := [97]) (by decide)) (one_flat [97])).mono ?_; rintro e w1 ⟨v1, rfl, k1, hb1⟩)
  have IA := Lib.hid k1
  have B1 := Lib.hid hb1
  have H1 := Lib.hid (hb1)
  clear k1 hb1
  go_wp2_with fail
  (go_at_call 13; refine (of_calls (⟨#[98]⟩ : ByteArray) _ (by decide) (HT.out.below H1.out) (one_letts (l := [98]) (by decide)) (one_flat [98])).mono ?_; rintro e w2 ⟨v2, rfl, k2, hb2⟩)
  have IB := Lib.hid k2
  have B2 := Lib.hid hb2
  have H2 := Lib.hid (below_step H1.out hb2)
  clear k2 hb2
  go_wp2_with fail
  (go_at_call 12; refine (join_is (IA.out.below B2.out) IB.out (by rw [Is.bytes (IA.out.below B2.out), Is.bytes IB.out]; decide)).mono ?_; rintro e w3 ⟨v3, rfl, k3, hb3⟩)
  have IC := Lib.hid k3
  have B3 := Lib.hid hb3
  have H3 := Lib.hid (below_step H2.out hb3)
  clear k3 hb3
  go_wp2_with fail
  (go_at_call 9; refine (text_is IC.out (⟨#[97, 98]⟩ : ByteArray) (by decide)).mono ?_; rintro e w4 ⟨rfl, hb4⟩)
  have B4 := Lib.hid hb4
  have H4 := Lib.hid (below_step H3.out hb4)
  clear hb4
  go_wp2_with fail
  (go_at_call 10; refine (CRs.out _).mono ?_; rintro e w5 ⟨rfl, hb5⟩)
  have B5 := Lib.hid hb5
  have H5 := Lib.hid (below_step H4.out hb5)
  clear hb5
  go_wp2
  go_ret
  exact ⟨rfl, H5.out⟩

set_option maxRecDepth 100000 in
set_option maxHeartbeats 2000000 in
theorem ropeJoin_wrong1 (s t : ByteArray) (w : World) (hT : Tabs w) (h1 : s.size ≤ 3000) (h2 : t.size ≤ 3000) (hvs : Lib.validD s.data.toList = true) (hvt : Lib.validD t.data.toList = false) :
    Calls Tryd.prog 4 #[.string s, .string t] w fun e w' => e = .returned (.bool true) ∧ Below w.heap.size w w' := by

  have HT := Lib.hid hT
  clear hT
  have hds : decide ((3000 : Int) < (s.size : Int)) = false := by simp; omega
  have hdt : decide ((3000 : Int) < (t.size : Int)) = false := by simp; omega
  have cRs : ∀ W, Calls Tryd.prog 10 #[.string s] W fun e w' => e = .returned (.bool true) ∧ Below W.heap.size W w' := fun W => by have := refRight_calls s W (by omega); rw [hvs] at this; exact this
  have CRs := Lib.hid cRs
  clear cRs hvs
  have cRt : ∀ W, Calls Tryd.prog 10 #[.string t] W fun e w' => e = .returned (.bool false) ∧ Below W.heap.size W w' := fun W => by have := refRight_calls t W (by omega); rw [hvt] at this; exact this
  have CRt := Lib.hid cRt
  clear cRt hvt
  go_enter Tryd.func4, Tryd.ntmps4
  go_wp2_with fail
  (go_at_call 13; refine (of_calls (⟨#[97]⟩ : ByteArray) _ (by decide) HT.out (one_letts (l := [97]) (by decide)) (one_flat [97])).mono ?_; rintro e w1 ⟨v1, rfl, k1, hb1⟩)
  have IA := Lib.hid k1
  have B1 := Lib.hid hb1
  have H1 := Lib.hid (hb1)
  clear k1 hb1
  go_wp2_with fail
  (go_at_call 13; refine (of_calls (⟨#[98]⟩ : ByteArray) _ (by decide) (HT.out.below H1.out) (one_letts (l := [98]) (by decide)) (one_flat [98])).mono ?_; rintro e w2 ⟨v2, rfl, k2, hb2⟩)
  have IB := Lib.hid k2
  have B2 := Lib.hid hb2
  have H2 := Lib.hid (below_step H1.out hb2)
  clear k2 hb2
  go_wp2_with fail
  (go_at_call 12; refine (join_is (IA.out.below B2.out) IB.out (by rw [Is.bytes (IA.out.below B2.out), Is.bytes IB.out]; decide)).mono ?_; rintro e w3 ⟨v3, rfl, k3, hb3⟩)
  have IC := Lib.hid k3
  have B3 := Lib.hid hb3
  have H3 := Lib.hid (below_step H2.out hb3)
  clear k3 hb3
  go_wp2_with fail
  (go_at_call 9; refine (text_is IC.out (⟨#[97, 98]⟩ : ByteArray) (by decide)).mono ?_; rintro e w4 ⟨rfl, hb4⟩)
  have B4 := Lib.hid hb4
  have H4 := Lib.hid (below_step H3.out hb4)
  clear hb4
  go_wp2_with fail
  (go_at_call 10; refine (CRs.out _).mono ?_; rintro e w5 ⟨rfl, hb5⟩)
  have B5 := Lib.hid hb5
  have H5 := Lib.hid (below_step H4.out hb5)
  clear hb5
  go_wp2_with fail
  (go_at_call 10; refine (CRt.out _).mono ?_; rintro e w6 ⟨rfl, hb6⟩)
  have B6 := Lib.hid hb6
  have H6 := Lib.hid (below_step H5.out hb6)
  clear hb6
  go_wp2
  go_ret
  exact ⟨rfl, H6.out⟩

theorem ropeJoin_calls (s t : ByteArray) (w : World) (hT : Tabs w) (hs : s.size ≤ 9223372036854775807) (ht : t.size ≤ 9223372036854775807) :
    Calls Tryd.prog 4 #[.string s, .string t] w fun e w' => e = .returned (.bool true) ∧ Below w.heap.size w w' := by
  by_cases h1 : s.size ≤ 3000
  · by_cases h2 : t.size ≤ 3000
    · cases hvs : Lib.validD s.data.toList with
      | false => exact ropeJoin_wrong0 s t w hT h1 h2 hvs
      | true =>
        cases hvt : Lib.validD t.data.toList with
        | false => exact ropeJoin_wrong1 s t w hT h1 h2 hvs hvt
        | true =>
          obtain ⟨cs, hls, hes⟩ := (validD_iff _).1 hvs
          obtain ⟨ct, hlt, het⟩ := (validD_iff _).1 hvt
          exact ropeJoin_full s t w hT h1 h2 hvs hvt cs ct hls hes hlt het
    · exact ropeJoin_early1 s t w hT h1 (by omega) ht
  · exact ropeJoin_early0 s t w hT (by omega) hs

set_option maxRecDepth 100000 in
set_option maxHeartbeats 2000000 in
theorem ropePut_early0 (s t : ByteArray) (at_ : Int) (w : World) (hT : Tabs w) (h1 : 3000 < s.size) (h1m : s.size ≤ 9223372036854775807) :
    Calls Tryd.prog 5 #[.string s, .int .i64 at_, .string t] w fun e w' => e = .returned (.bool true) ∧ Below w.heap.size w w' := by

  have HT := Lib.hid hT
  clear hT
  have hds : decide ((3000 : Int) < (s.size : Int)) = true := by simp; omega
  go_enter Tryd.func5, Tryd.ntmps5
  go_wp2_with fail
  (go_at_call 13; refine (of_calls (⟨#[97, 98]⟩ : ByteArray) _ (by decide) HT.out (one_letts (l := [97, 98]) (by decide)) (one_flat [97, 98])).mono ?_; rintro e w1 ⟨v1, rfl, k1, hb1⟩)
  have IA := Lib.hid k1
  have B1 := Lib.hid hb1
  have H1 := Lib.hid (hb1)
  clear k1 hb1
  go_wp2_with fail
  (go_at_call 13; refine (of_calls (⟨#[120]⟩ : ByteArray) _ (by decide) (HT.out.below H1.out) (one_letts (l := [120]) (by decide)) (one_flat [120])).mono ?_; rintro e w2 ⟨v2, rfl, k2, hb2⟩)
  have IB := Lib.hid k2
  have B2 := Lib.hid hb2
  have H2 := Lib.hid (below_step H1.out hb2)
  clear k2 hb2
  go_wp2_with fail
  (go_at_call 14; refine (put_is 1 (IA.out.below B2.out) IB.out (by rw [Is.bytes (IA.out.below B2.out), Is.bytes IB.out]; decide)).mono ?_; rintro e w3 ⟨v3, rfl, k3, hb3⟩)
  have IC := Lib.hid k3
  have B3 := Lib.hid hb3
  have H3 := Lib.hid (below_step H2.out hb3)
  clear k3 hb3
  go_wp2_with fail
  (go_at_call 9; refine (text_is IC.out (⟨#[97, 120, 98]⟩ : ByteArray) (by decide)).mono ?_; rintro e w4 ⟨rfl, hb4⟩)
  have B4 := Lib.hid hb4
  have H4 := Lib.hid (below_step H3.out hb4)
  clear hb4
  go_wp2
  go_ret
  exact ⟨rfl, H4.out⟩

set_option maxRecDepth 100000 in
set_option maxHeartbeats 2000000 in
theorem ropePut_early1 (s t : ByteArray) (at_ : Int) (w : World) (hT : Tabs w) (h1 : s.size ≤ 3000) (h2 : 3000 < t.size) (h2m : t.size ≤ 9223372036854775807) :
    Calls Tryd.prog 5 #[.string s, .int .i64 at_, .string t] w fun e w' => e = .returned (.bool true) ∧ Below w.heap.size w w' := by

  have HT := Lib.hid hT
  clear hT
  have hds : decide ((3000 : Int) < (s.size : Int)) = false := by simp; omega
  have hdt : decide ((3000 : Int) < (t.size : Int)) = true := by simp; omega
  go_enter Tryd.func5, Tryd.ntmps5
  go_wp2_with fail
  (go_at_call 13; refine (of_calls (⟨#[97, 98]⟩ : ByteArray) _ (by decide) HT.out (one_letts (l := [97, 98]) (by decide)) (one_flat [97, 98])).mono ?_; rintro e w1 ⟨v1, rfl, k1, hb1⟩)
  have IA := Lib.hid k1
  have B1 := Lib.hid hb1
  have H1 := Lib.hid (hb1)
  clear k1 hb1
  go_wp2_with fail
  (go_at_call 13; refine (of_calls (⟨#[120]⟩ : ByteArray) _ (by decide) (HT.out.below H1.out) (one_letts (l := [120]) (by decide)) (one_flat [120])).mono ?_; rintro e w2 ⟨v2, rfl, k2, hb2⟩)
  have IB := Lib.hid k2
  have B2 := Lib.hid hb2
  have H2 := Lib.hid (below_step H1.out hb2)
  clear k2 hb2
  go_wp2_with fail
  (go_at_call 14; refine (put_is 1 (IA.out.below B2.out) IB.out (by rw [Is.bytes (IA.out.below B2.out), Is.bytes IB.out]; decide)).mono ?_; rintro e w3 ⟨v3, rfl, k3, hb3⟩)
  have IC := Lib.hid k3
  have B3 := Lib.hid hb3
  have H3 := Lib.hid (below_step H2.out hb3)
  clear k3 hb3
  go_wp2_with fail
  (go_at_call 9; refine (text_is IC.out (⟨#[97, 120, 98]⟩ : ByteArray) (by decide)).mono ?_; rintro e w4 ⟨rfl, hb4⟩)
  have B4 := Lib.hid hb4
  have H4 := Lib.hid (below_step H3.out hb4)
  clear hb4
  go_wp2
  go_ret
  exact ⟨rfl, H4.out⟩

set_option maxRecDepth 100000 in
set_option maxHeartbeats 2000000 in
theorem ropePut_full (s t : ByteArray) (at_ : Int) (w : World) (hT : Tabs w) (h1 : s.size ≤ 3000) (h2 : t.size ≤ 3000) (hvs : Lib.validD s.data.toList = true) (hvt : Lib.validD t.data.toList = true) (cs ct : List (List UInt8)) (hls : Letts cs) (hes : s.data.toList = cs.flatten) (hlt : Letts ct) (het : t.data.toList = ct.flatten) :
    Calls Tryd.prog 5 #[.string s, .int .i64 at_, .string t] w fun e w' => e = .returned (.bool true) ∧ Below w.heap.size w w' := by

  have HT := Lib.hid hT
  clear hT
  have hds : decide ((3000 : Int) < (s.size : Int)) = false := by simp; omega
  have hdt : decide ((3000 : Int) < (t.size : Int)) = false := by simp; omega
  have cRs : ∀ W, Calls Tryd.prog 10 #[.string s] W fun e w' => e = .returned (.bool true) ∧ Below W.heap.size W w' := fun W => by have := refRight_calls s W (by omega); rw [hvs] at this; exact this
  have CRs := Lib.hid cRs
  clear cRs hvs
  have cRt : ∀ W, Calls Tryd.prog 10 #[.string t] W fun e w' => e = .returned (.bool true) ∧ Below W.heap.size W w' := fun W => by have := refRight_calls t W (by omega); rw [hvt] at this; exact this
  have CRt := Lib.hid cRt
  clear cRt hvt
  have zs : bytesO (newO s) = s.size := by rw [(newO_good hls hes).bytes, ← hes, toList_size]
  have zt : bytesO (newO t) = t.size := by rw [(newO_good hlt het).bytes, ← het, toList_size]
  have HLs := Lib.hid hls
  have HEs := Lib.hid hes
  clear hls hes
  have HLt := Lib.hid hlt
  have HEt := Lib.hid het
  clear hlt het
  have hst : s.size + t.size ≤ 9223372036854775807 := by omega
  obtain ⟨r, hr1, hr2⟩ := Put_ev HLs.out HEs.out (by omega) HEt.out (by omega) at_
  obtain ⟨k, hk⟩ := Go.Proofs.YtdbdcnpajeflkaaDoorW.PrintWords.Ev.rounds hr1
  have refPut : Hid (∀ W, Calls Tryd.prog 15 #[.string s, .int .i64 at_, .string t] W fun e w' => e = .returned (.string r) ∧ Below W.heap.size W w') := fun W => (chancelref01_Put.calls k s at_ t r W hk).mono fun e w' h => ⟨h.1, below_drawn h.2⟩
  have HR := Lib.hid hr2
  clear hr1 hr2 hk
  go_enter Tryd.func5, Tryd.ntmps5
  go_wp2_with fail
  (go_at_call 13; refine (of_calls (⟨#[97, 98]⟩ : ByteArray) _ (by decide) HT.out (one_letts (l := [97, 98]) (by decide)) (one_flat [97, 98])).mono ?_; rintro e w1 ⟨v1, rfl, k1, hb1⟩)
  have IA := Lib.hid k1
  have B1 := Lib.hid hb1
  have H1 := Lib.hid (hb1)
  clear k1 hb1
  go_wp2_with fail
  (go_at_call 13; refine (of_calls (⟨#[120]⟩ : ByteArray) _ (by decide) (HT.out.below H1.out) (one_letts (l := [120]) (by decide)) (one_flat [120])).mono ?_; rintro e w2 ⟨v2, rfl, k2, hb2⟩)
  have IB := Lib.hid k2
  have B2 := Lib.hid hb2
  have H2 := Lib.hid (below_step H1.out hb2)
  clear k2 hb2
  go_wp2_with fail
  (go_at_call 14; refine (put_is 1 (IA.out.below B2.out) IB.out (by rw [Is.bytes (IA.out.below B2.out), Is.bytes IB.out]; decide)).mono ?_; rintro e w3 ⟨v3, rfl, k3, hb3⟩)
  have IC := Lib.hid k3
  have B3 := Lib.hid hb3
  have H3 := Lib.hid (below_step H2.out hb3)
  clear k3 hb3
  go_wp2_with fail
  (go_at_call 9; refine (text_is IC.out (⟨#[97, 120, 98]⟩ : ByteArray) (by decide)).mono ?_; rintro e w4 ⟨rfl, hb4⟩)
  have B4 := Lib.hid hb4
  have H4 := Lib.hid (below_step H3.out hb4)
  clear hb4
  go_wp2_with fail
  (go_at_call 10; refine (CRs.out _).mono ?_; rintro e w5 ⟨rfl, hb5⟩)
  have B5 := Lib.hid hb5
  have H5 := Lib.hid (below_step H4.out hb5)
  clear hb5
  go_wp2_with fail
  (go_at_call 10; refine (CRt.out _).mono ?_; rintro e w6 ⟨rfl, hb6⟩)
  have B6 := Lib.hid hb6
  have H6 := Lib.hid (below_step H5.out hb6)
  clear hb6
  go_wp2_with fail
  (go_at_call 13; refine (of_calls s _ (by omega) (HT.out.below H6.out) HLs.out HEs.out).mono ?_; rintro e w7 ⟨v7, rfl, k7, hb7⟩)
  have S := Lib.hid k7
  have B7 := Lib.hid hb7
  have H7 := Lib.hid (below_step H6.out hb7)
  clear k7 hb7
  go_wp2_with fail
  (go_at_call 13; refine (of_calls t _ (by omega) (HT.out.below H7.out) HLt.out HEt.out).mono ?_; rintro e w8 ⟨v8, rfl, k8, hb8⟩)
  have U := Lib.hid k8
  have B8 := Lib.hid hb8
  have H8 := Lib.hid (below_step H7.out hb8)
  clear k8 hb8
  go_wp2_with fail
  (go_at_call 14; refine (put_is at_ (S.out.below B8.out) U.out (by omega)).mono ?_; rintro e w9 ⟨v9, rfl, k9, hb9⟩)
  have J := Lib.hid k9
  have B9 := Lib.hid hb9
  have H9 := Lib.hid (below_step H8.out hb9)
  clear k9 hb9
  go_wp2_with fail
  (go_at_call 15; refine (refPut.out _).mono ?_; rintro e w10 ⟨rfl, hb10⟩)
  have B10 := Lib.hid hb10
  have H10 := Lib.hid (below_step H9.out hb10)
  clear hb10
  go_wp2_with fail
  (go_at_call 11; refine (has_calls _ _ _ r _ (J.out.below B10.out) HR.out).mono ?_; rintro e w11 ⟨rfl, hb11⟩)
  have B11 := Lib.hid hb11
  have H11 := Lib.hid (below_step H10.out hb11)
  clear hb11
  go_wp2_with fail
  (go_at_call 11; refine (has_calls _ _ _ s _ ((((S.out.below B8.out).below B9.out).below B10.out).below B11.out) HEs.out).mono ?_; rintro e w12 ⟨rfl, hb12⟩)
  have B12 := Lib.hid hb12
  have H12 := Lib.hid (below_step H11.out hb12)
  clear hb12
  go_wp2_with fail
  (go_at_call 11; refine (has_calls _ _ _ t _ ((((U.out.below B9.out).below B10.out).below B11.out).below B12.out) HEt.out).mono ?_; rintro e w13 ⟨rfl, hb13⟩)
  have B13 := Lib.hid hb13
  have H13 := Lib.hid (below_step H12.out hb13)
  clear hb13
  go_wp2
  go_ret
  exact ⟨rfl, H13.out⟩

set_option maxRecDepth 100000 in
set_option maxHeartbeats 2000000 in
theorem ropePut_wrong0 (s t : ByteArray) (at_ : Int) (w : World) (hT : Tabs w) (h1 : s.size ≤ 3000) (h2 : t.size ≤ 3000) (hvs : Lib.validD s.data.toList = false) :
    Calls Tryd.prog 5 #[.string s, .int .i64 at_, .string t] w fun e w' => e = .returned (.bool true) ∧ Below w.heap.size w w' := by

  have HT := Lib.hid hT
  clear hT
  have hds : decide ((3000 : Int) < (s.size : Int)) = false := by simp; omega
  have hdt : decide ((3000 : Int) < (t.size : Int)) = false := by simp; omega
  have cRs : ∀ W, Calls Tryd.prog 10 #[.string s] W fun e w' => e = .returned (.bool false) ∧ Below W.heap.size W w' := fun W => by have := refRight_calls s W (by omega); rw [hvs] at this; exact this
  have CRs := Lib.hid cRs
  clear cRs hvs
  go_enter Tryd.func5, Tryd.ntmps5
  go_wp2_with fail
  (go_at_call 13; refine (of_calls (⟨#[97, 98]⟩ : ByteArray) _ (by decide) HT.out (one_letts (l := [97, 98]) (by decide)) (one_flat [97, 98])).mono ?_; rintro e w1 ⟨v1, rfl, k1, hb1⟩)
  have IA := Lib.hid k1
  have B1 := Lib.hid hb1
  have H1 := Lib.hid (hb1)
  clear k1 hb1
  go_wp2_with fail
  (go_at_call 13; refine (of_calls (⟨#[120]⟩ : ByteArray) _ (by decide) (HT.out.below H1.out) (one_letts (l := [120]) (by decide)) (one_flat [120])).mono ?_; rintro e w2 ⟨v2, rfl, k2, hb2⟩)
  have IB := Lib.hid k2
  have B2 := Lib.hid hb2
  have H2 := Lib.hid (below_step H1.out hb2)
  clear k2 hb2
  go_wp2_with fail
  (go_at_call 14; refine (put_is 1 (IA.out.below B2.out) IB.out (by rw [Is.bytes (IA.out.below B2.out), Is.bytes IB.out]; decide)).mono ?_; rintro e w3 ⟨v3, rfl, k3, hb3⟩)
  have IC := Lib.hid k3
  have B3 := Lib.hid hb3
  have H3 := Lib.hid (below_step H2.out hb3)
  clear k3 hb3
  go_wp2_with fail
  (go_at_call 9; refine (text_is IC.out (⟨#[97, 120, 98]⟩ : ByteArray) (by decide)).mono ?_; rintro e w4 ⟨rfl, hb4⟩)
  have B4 := Lib.hid hb4
  have H4 := Lib.hid (below_step H3.out hb4)
  clear hb4
  go_wp2_with fail
  (go_at_call 10; refine (CRs.out _).mono ?_; rintro e w5 ⟨rfl, hb5⟩)
  have B5 := Lib.hid hb5
  have H5 := Lib.hid (below_step H4.out hb5)
  clear hb5
  go_wp2
  go_ret
  exact ⟨rfl, H5.out⟩

set_option maxRecDepth 100000 in
set_option maxHeartbeats 2000000 in
theorem ropePut_wrong1 (s t : ByteArray) (at_ : Int) (w : World) (hT : Tabs w) (h1 : s.size ≤ 3000) (h2 : t.size ≤ 3000) (hvs : Lib.validD s.data.toList = true) (hvt : Lib.validD t.data.toList = false) :
    Calls Tryd.prog 5 #[.string s, .int .i64 at_, .string t] w fun e w' => e = .returned (.bool true) ∧ Below w.heap.size w w' := by

  have HT := Lib.hid hT
  clear hT
  have hds : decide ((3000 : Int) < (s.size : Int)) = false := by simp; omega
  have hdt : decide ((3000 : Int) < (t.size : Int)) = false := by simp; omega
  have cRs : ∀ W, Calls Tryd.prog 10 #[.string s] W fun e w' => e = .returned (.bool true) ∧ Below W.heap.size W w' := fun W => by have := refRight_calls s W (by omega); rw [hvs] at this; exact this
  have CRs := Lib.hid cRs
  clear cRs hvs
  have cRt : ∀ W, Calls Tryd.prog 10 #[.string t] W fun e w' => e = .returned (.bool false) ∧ Below W.heap.size W w' := fun W => by have := refRight_calls t W (by omega); rw [hvt] at this; exact this
  have CRt := Lib.hid cRt
  clear cRt hvt
  go_enter Tryd.func5, Tryd.ntmps5
  go_wp2_with fail
  (go_at_call 13; refine (of_calls (⟨#[97, 98]⟩ : ByteArray) _ (by decide) HT.out (one_letts (l := [97, 98]) (by decide)) (one_flat [97, 98])).mono ?_; rintro e w1 ⟨v1, rfl, k1, hb1⟩)
  have IA := Lib.hid k1
  have B1 := Lib.hid hb1
  have H1 := Lib.hid (hb1)
  clear k1 hb1
  go_wp2_with fail
  (go_at_call 13; refine (of_calls (⟨#[120]⟩ : ByteArray) _ (by decide) (HT.out.below H1.out) (one_letts (l := [120]) (by decide)) (one_flat [120])).mono ?_; rintro e w2 ⟨v2, rfl, k2, hb2⟩)
  have IB := Lib.hid k2
  have B2 := Lib.hid hb2
  have H2 := Lib.hid (below_step H1.out hb2)
  clear k2 hb2
  go_wp2_with fail
  (go_at_call 14; refine (put_is 1 (IA.out.below B2.out) IB.out (by rw [Is.bytes (IA.out.below B2.out), Is.bytes IB.out]; decide)).mono ?_; rintro e w3 ⟨v3, rfl, k3, hb3⟩)
  have IC := Lib.hid k3
  have B3 := Lib.hid hb3
  have H3 := Lib.hid (below_step H2.out hb3)
  clear k3 hb3
  go_wp2_with fail
  (go_at_call 9; refine (text_is IC.out (⟨#[97, 120, 98]⟩ : ByteArray) (by decide)).mono ?_; rintro e w4 ⟨rfl, hb4⟩)
  have B4 := Lib.hid hb4
  have H4 := Lib.hid (below_step H3.out hb4)
  clear hb4
  go_wp2_with fail
  (go_at_call 10; refine (CRs.out _).mono ?_; rintro e w5 ⟨rfl, hb5⟩)
  have B5 := Lib.hid hb5
  have H5 := Lib.hid (below_step H4.out hb5)
  clear hb5
  go_wp2_with fail
  (go_at_call 10; refine (CRt.out _).mono ?_; rintro e w6 ⟨rfl, hb6⟩)
  have B6 := Lib.hid hb6
  have H6 := Lib.hid (below_step H5.out hb6)
  clear hb6
  go_wp2
  go_ret
  exact ⟨rfl, H6.out⟩

theorem ropePut_calls (s t : ByteArray) (at_ : Int) (w : World) (hT : Tabs w) (hs : s.size ≤ 9223372036854775807) (ht : t.size ≤ 9223372036854775807) :
    Calls Tryd.prog 5 #[.string s, .int .i64 at_, .string t] w fun e w' => e = .returned (.bool true) ∧ Below w.heap.size w w' := by
  by_cases h1 : s.size ≤ 3000
  · by_cases h2 : t.size ≤ 3000
    · cases hvs : Lib.validD s.data.toList with
      | false => exact ropePut_wrong0 s t at_ w hT h1 h2 hvs
      | true =>
        cases hvt : Lib.validD t.data.toList with
        | false => exact ropePut_wrong1 s t at_ w hT h1 h2 hvs hvt
        | true =>
          obtain ⟨cs, hls, hes⟩ := (validD_iff _).1 hvs
          obtain ⟨ct, hlt, het⟩ := (validD_iff _).1 hvt
          exact ropePut_full s t at_ w hT h1 h2 hvs hvt cs ct hls hes hlt het
    · exact ropePut_early1 s t at_ w hT h1 (by omega) ht
  · exact ropePut_early0 s t at_ w hT (by omega) hs

set_option maxRecDepth 100000 in
set_option maxHeartbeats 2000000 in
theorem ropeCut_early0 (s : ByteArray) (a b : Int) (w : World) (hT : Tabs w) (h1 : 3000 < s.size) (h1m : s.size ≤ 9223372036854775807) :
    Calls Tryd.prog 6 #[.string s, .int .i64 a, .int .i64 b] w fun e w' => e = .returned (.bool true) ∧ Below w.heap.size w w' := by

  have HT := Lib.hid hT
  clear hT
  have hds : decide ((3000 : Int) < (s.size : Int)) = true := by simp; omega
  go_enter Tryd.func6, Tryd.ntmps6
  go_wp2_with fail
  (go_at_call 13; refine (of_calls (⟨#[97, 98, 99]⟩ : ByteArray) _ (by decide) HT.out (one_letts (l := [97, 98, 99]) (by decide)) (one_flat [97, 98, 99])).mono ?_; rintro e w1 ⟨v1, rfl, k1, hb1⟩)
  have IA := Lib.hid k1
  have B1 := Lib.hid hb1
  have H1 := Lib.hid (hb1)
  clear k1 hb1
  go_wp2_with fail
  (go_at_call 16; refine (cut_is 1 2 IA.out).mono ?_; rintro e w2 ⟨v2, rfl, k2, hb2⟩)
  have IC := Lib.hid k2
  have B2 := Lib.hid hb2
  have H2 := Lib.hid (below_step H1.out hb2)
  clear k2 hb2
  go_wp2_with fail
  (go_at_call 9; refine (text_is IC.out (⟨#[98]⟩ : ByteArray) (by decide)).mono ?_; rintro e w3 ⟨rfl, hb3⟩)
  have B3 := Lib.hid hb3
  have H3 := Lib.hid (below_step H2.out hb3)
  clear hb3
  go_wp2
  go_ret
  exact ⟨rfl, H3.out⟩

set_option maxRecDepth 100000 in
set_option maxHeartbeats 2000000 in
theorem ropeCut_full (s : ByteArray) (a b : Int) (w : World) (hT : Tabs w) (h1 : s.size ≤ 3000) (hvs : Lib.validD s.data.toList = true) (cs : List (List UInt8)) (hls : Letts cs) (hes : s.data.toList = cs.flatten) :
    Calls Tryd.prog 6 #[.string s, .int .i64 a, .int .i64 b] w fun e w' => e = .returned (.bool true) ∧ Below w.heap.size w w' := by

  have HT := Lib.hid hT
  clear hT
  have hds : decide ((3000 : Int) < (s.size : Int)) = false := by simp; omega
  have cRs : ∀ W, Calls Tryd.prog 10 #[.string s] W fun e w' => e = .returned (.bool true) ∧ Below W.heap.size W w' := fun W => by have := refRight_calls s W (by omega); rw [hvs] at this; exact this
  have CRs := Lib.hid cRs
  clear cRs hvs
  have zs : bytesO (newO s) = s.size := by rw [(newO_good hls hes).bytes, ← hes, toList_size]
  have HLs := Lib.hid hls
  have HEs := Lib.hid hes
  clear hls hes
  obtain ⟨r, hr1, hr2⟩ := Cut_ev HLs.out HEs.out (by omega) a b
  obtain ⟨kr, hk⟩ := Go.Proofs.YtdbdcnpajeflkaaDoorW.PrintWords.Ev.rounds hr1
  have refCut : Hid (∀ W, Calls Tryd.prog 17 #[.string s, .int .i64 a, .int .i64 b] W fun e w' => e = .returned (.string r) ∧ Below W.heap.size W w') := fun W => (chancelref01_Cut.calls kr s a b r W hk).mono fun e w' h => ⟨h.1, below_drawn h.2⟩
  have HR := Lib.hid hr2
  clear hr1 hr2 hk
  obtain ⟨q, hr1, hr2⟩ := Drop_ev HLs.out HEs.out (by omega) a b
  obtain ⟨kq, hk⟩ := Go.Proofs.YtdbdcnpajeflkaaDoorW.PrintWords.Ev.rounds hr1
  have refDrop : Hid (∀ W, Calls Tryd.prog 19 #[.string s, .int .i64 a, .int .i64 b] W fun e w' => e = .returned (.string q) ∧ Below W.heap.size W w') := fun W => (chancelref02_Drop.calls kq s a b q W hk).mono fun e w' h => ⟨h.1, below_drawn h.2⟩
  have HQ := Lib.hid hr2
  clear hr1 hr2 hk
  go_enter Tryd.func6, Tryd.ntmps6
  go_wp2_with fail
  (go_at_call 13; refine (of_calls (⟨#[97, 98, 99]⟩ : ByteArray) _ (by decide) HT.out (one_letts (l := [97, 98, 99]) (by decide)) (one_flat [97, 98, 99])).mono ?_; rintro e w1 ⟨v1, rfl, k1, hb1⟩)
  have IA := Lib.hid k1
  have B1 := Lib.hid hb1
  have H1 := Lib.hid (hb1)
  clear k1 hb1
  go_wp2_with fail
  (go_at_call 16; refine (cut_is 1 2 IA.out).mono ?_; rintro e w2 ⟨v2, rfl, k2, hb2⟩)
  have IC := Lib.hid k2
  have B2 := Lib.hid hb2
  have H2 := Lib.hid (below_step H1.out hb2)
  clear k2 hb2
  go_wp2_with fail
  (go_at_call 9; refine (text_is IC.out (⟨#[98]⟩ : ByteArray) (by decide)).mono ?_; rintro e w3 ⟨rfl, hb3⟩)
  have B3 := Lib.hid hb3
  have H3 := Lib.hid (below_step H2.out hb3)
  clear hb3
  go_wp2_with fail
  (go_at_call 10; refine (CRs.out _).mono ?_; rintro e w4 ⟨rfl, hb4⟩)
  have B4 := Lib.hid hb4
  have H4 := Lib.hid (below_step H3.out hb4)
  clear hb4
  go_wp2_with fail
  (go_at_call 13; refine (of_calls s _ (by omega) (HT.out.below H4.out) HLs.out HEs.out).mono ?_; rintro e w5 ⟨v5, rfl, k5, hb5⟩)
  have S := Lib.hid k5
  have B5 := Lib.hid hb5
  have H5 := Lib.hid (below_step H4.out hb5)
  clear k5 hb5
  go_wp2_with fail
  (go_at_call 16; refine (cut_is a b S.out).mono ?_; rintro e w6 ⟨v6, rfl, k6, hb6⟩)
  have J := Lib.hid k6
  have B6 := Lib.hid hb6
  have H6 := Lib.hid (below_step H5.out hb6)
  clear k6 hb6
  go_wp2_with fail
  (go_at_call 17; refine (refCut.out _).mono ?_; rintro e w7 ⟨rfl, hb7⟩)
  have B7 := Lib.hid hb7
  have H7 := Lib.hid (below_step H6.out hb7)
  clear hb7
  go_wp2_with fail
  (go_at_call 11; refine (has_calls _ _ _ r _ (J.out.below B7.out) HR.out).mono ?_; rintro e w8 ⟨rfl, hb8⟩)
  have B8 := Lib.hid hb8
  have H8 := Lib.hid (below_step H7.out hb8)
  clear hb8
  go_wp2_with fail
  (go_at_call 18; refine (drop_is a b (((S.out.below B6.out).below B7.out).below B8.out) (by omega)).mono ?_; rintro e w9 ⟨v9, rfl, k9, hb9⟩)
  have D := Lib.hid k9
  have B9 := Lib.hid hb9
  have H9 := Lib.hid (below_step H8.out hb9)
  clear k9 hb9
  go_wp2_with fail
  (go_at_call 19; refine (refDrop.out _).mono ?_; rintro e w10 ⟨rfl, hb10⟩)
  have B10 := Lib.hid hb10
  have H10 := Lib.hid (below_step H9.out hb10)
  clear hb10
  go_wp2_with fail
  (go_at_call 11; refine (has_calls _ _ _ q _ (D.out.below B10.out) HQ.out).mono ?_; rintro e w11 ⟨rfl, hb11⟩)
  have B11 := Lib.hid hb11
  have H11 := Lib.hid (below_step H10.out hb11)
  clear hb11
  go_wp2_with fail
  (go_at_call 11; refine (has_calls _ _ _ s _ ((((((S.out.below B6.out).below B7.out).below B8.out).below B9.out).below B10.out).below B11.out) HEs.out).mono ?_; rintro e w12 ⟨rfl, hb12⟩)
  have B12 := Lib.hid hb12
  have H12 := Lib.hid (below_step H11.out hb12)
  clear hb12
  go_wp2
  go_ret
  exact ⟨rfl, H12.out⟩

set_option maxRecDepth 100000 in
set_option maxHeartbeats 2000000 in
theorem ropeCut_wrong0 (s : ByteArray) (a b : Int) (w : World) (hT : Tabs w) (h1 : s.size ≤ 3000) (hvs : Lib.validD s.data.toList = false) :
    Calls Tryd.prog 6 #[.string s, .int .i64 a, .int .i64 b] w fun e w' => e = .returned (.bool true) ∧ Below w.heap.size w w' := by

  have HT := Lib.hid hT
  clear hT
  have hds : decide ((3000 : Int) < (s.size : Int)) = false := by simp; omega
  have cRs : ∀ W, Calls Tryd.prog 10 #[.string s] W fun e w' => e = .returned (.bool false) ∧ Below W.heap.size W w' := fun W => by have := refRight_calls s W (by omega); rw [hvs] at this; exact this
  have CRs := Lib.hid cRs
  clear cRs hvs
  go_enter Tryd.func6, Tryd.ntmps6
  go_wp2_with fail
  (go_at_call 13; refine (of_calls (⟨#[97, 98, 99]⟩ : ByteArray) _ (by decide) HT.out (one_letts (l := [97, 98, 99]) (by decide)) (one_flat [97, 98, 99])).mono ?_; rintro e w1 ⟨v1, rfl, k1, hb1⟩)
  have IA := Lib.hid k1
  have B1 := Lib.hid hb1
  have H1 := Lib.hid (hb1)
  clear k1 hb1
  go_wp2_with fail
  (go_at_call 16; refine (cut_is 1 2 IA.out).mono ?_; rintro e w2 ⟨v2, rfl, k2, hb2⟩)
  have IC := Lib.hid k2
  have B2 := Lib.hid hb2
  have H2 := Lib.hid (below_step H1.out hb2)
  clear k2 hb2
  go_wp2_with fail
  (go_at_call 9; refine (text_is IC.out (⟨#[98]⟩ : ByteArray) (by decide)).mono ?_; rintro e w3 ⟨rfl, hb3⟩)
  have B3 := Lib.hid hb3
  have H3 := Lib.hid (below_step H2.out hb3)
  clear hb3
  go_wp2_with fail
  (go_at_call 10; refine (CRs.out _).mono ?_; rintro e w4 ⟨rfl, hb4⟩)
  have B4 := Lib.hid hb4
  have H4 := Lib.hid (below_step H3.out hb4)
  clear hb4
  go_wp2
  go_ret
  exact ⟨rfl, H4.out⟩

theorem ropeCut_calls (s : ByteArray) (a b : Int) (w : World) (hT : Tabs w) (hs : s.size ≤ 9223372036854775807) :
    Calls Tryd.prog 6 #[.string s, .int .i64 a, .int .i64 b] w fun e w' => e = .returned (.bool true) ∧ Below w.heap.size w w' := by
  by_cases h1 : s.size ≤ 3000
  · cases hvs : Lib.validD s.data.toList with
    | false => exact ropeCut_wrong0 s a b w hT h1 hvs
    | true =>
      obtain ⟨cs, hls, hes⟩ := (validD_iff _).1 hvs
      exact ropeCut_full s a b w hT h1 hvs cs hls hes
  · exact ropeCut_early0 s a b w hT (by omega) hs

/-- A rope and true come back. -/
def RetT2 (t : Option T) (cs : List (List UInt8)) (w : World) (e : Ending) (w' : World) : Prop := ∃ v, e = .returned (.tuple #[v, .bool true]) ∧ Is w' v t cs ∧ Below w.heap.size w w'
theorem new_is (s : ByteArray) (w : World) (hs : s.size ≤ 1099511627776) (hT : Tabs w) {cs : List (List UInt8)} (hl : Letts cs) (h : s.data.toList = cs.flatten) : Calls Tryd.prog 8 #[.string s] w (RetT2 (newO s) cs w) := new_calls s w hs hT hl h

set_option maxRecDepth 100000 in
set_option maxHeartbeats 2000000 in
theorem ropeNew_early (s : ByteArray) (w : World) (hT : Tabs w) (h1 : 4000 < s.size) (h1m : s.size ≤ 9223372036854775807) :
    Calls Tryd.prog 3 #[.string s] w fun e w' => e = .returned (.bool true) ∧ Below w.heap.size w w' := by

  have HT := Lib.hid hT
  clear hT
  have hds : decide ((4000 : Int) < (s.size : Int)) = true := by simp; omega
  go_enter Tryd.func3, Tryd.ntmps3
  go_wp2_with fail
  (go_at_call 8; refine (new_is (⟨#[97, 98]⟩ : ByteArray) _ (by decide) HT.out (one_letts (l := [97, 98]) (by decide)) (one_flat [97, 98])).mono ?_; rintro e w1 ⟨v1, rfl, k1, hb1⟩)
  have IA := Lib.hid k1
  have B1 := Lib.hid hb1
  have H1 := Lib.hid (hb1)
  clear k1 hb1
  go_wp2_with fail
  (go_at_call 9; refine (text_is IA.out (⟨#[97, 98]⟩ : ByteArray) (by decide)).mono ?_; rintro e w2 ⟨rfl, hb2⟩)
  have B2 := Lib.hid hb2
  have H2 := Lib.hid (below_step H1.out hb2)
  clear hb2
  go_wp2
  go_ret
  exact ⟨rfl, H2.out⟩

set_option maxRecDepth 100000 in
set_option maxHeartbeats 2000000 in
theorem ropeNew_full (s : ByteArray) (w : World) (hT : Tabs w) (h1 : s.size ≤ 4000) (hvs : Lib.validD s.data.toList = true) (cs : List (List UInt8)) (hls : Letts cs) (hes : s.data.toList = cs.flatten) :
    Calls Tryd.prog 3 #[.string s] w fun e w' => e = .returned (.bool true) ∧ Below w.heap.size w w' := by

  have HT := Lib.hid hT
  clear hT
  have hds : decide ((4000 : Int) < (s.size : Int)) = false := by simp; omega
  have cRs : ∀ W, Calls Tryd.prog 10 #[.string s] W fun e w' => e = .returned (.bool true) ∧ Below W.heap.size W w' := fun W => by have := refRight_calls s W (by omega); rw [hvs] at this; exact this
  have CRs := Lib.hid cRs
  clear cRs hvs
  have HLs := Lib.hid hls
  have HEs := Lib.hid hes
  clear hls hes
  go_enter Tryd.func3, Tryd.ntmps3
  go_wp2_with fail
  (go_at_call 8; refine (new_is (⟨#[97, 98]⟩ : ByteArray) _ (by decide) HT.out (one_letts (l := [97, 98]) (by decide)) (one_flat [97, 98])).mono ?_; rintro e w1 ⟨v1, rfl, k1, hb1⟩)
  have IA := Lib.hid k1
  have B1 := Lib.hid hb1
  have H1 := Lib.hid (hb1)
  clear k1 hb1
  go_wp2_with fail
  (go_at_call 9; refine (text_is IA.out (⟨#[97, 98]⟩ : ByteArray) (by decide)).mono ?_; rintro e w2 ⟨rfl, hb2⟩)
  have B2 := Lib.hid hb2
  have H2 := Lib.hid (below_step H1.out hb2)
  clear hb2
  go_wp2_with fail
  (go_at_call 8; refine (new_is s _ (by omega) (HT.out.below H2.out) HLs.out HEs.out).mono ?_; rintro e w3 ⟨v3, rfl, k3, hb3⟩)
  have S := Lib.hid k3
  have B3 := Lib.hid hb3
  have H3 := Lib.hid (below_step H2.out hb3)
  clear k3 hb3
  go_wp2_with fail
  (go_at_call 10; refine (CRs.out _).mono ?_; rintro e w4 ⟨rfl, hb4⟩)
  have B4 := Lib.hid hb4
  have H4 := Lib.hid (below_step H3.out hb4)
  clear hb4
  go_wp2_with fail
  (go_at_call 11; refine (has_calls _ _ _ s _ (S.out.below B4.out) HEs.out).mono ?_; rintro e w5 ⟨rfl, hb5⟩)
  have B5 := Lib.hid hb5
  have H5 := Lib.hid (below_step H4.out hb5)
  clear hb5
  go_wp2
  go_ret
  exact ⟨rfl, H5.out⟩

set_option maxRecDepth 100000 in
set_option maxHeartbeats 2000000 in
theorem ropeNew_wrong (s : ByteArray) (w : World) (hT : Tabs w) (h1 : s.size ≤ 4000) (hvs : Lib.validD s.data.toList = false) :
    Calls Tryd.prog 3 #[.string s] w fun e w' => e = .returned (.bool true) ∧ Below w.heap.size w w' := by

  have HT := Lib.hid hT
  clear hT
  have hds : decide ((4000 : Int) < (s.size : Int)) = false := by simp; omega
  have HV := Lib.hid hvs
  have cRs : ∀ W, Calls Tryd.prog 10 #[.string s] W fun e w' => e = .returned (.bool false) ∧ Below W.heap.size W w' := fun W => by have := refRight_calls s W (by omega); rw [hvs] at this; exact this
  have CRs := Lib.hid cRs
  clear cRs hvs
  go_enter Tryd.func3, Tryd.ntmps3
  go_wp2_with fail
  (go_at_call 8; refine (new_is (⟨#[97, 98]⟩ : ByteArray) _ (by decide) HT.out (one_letts (l := [97, 98]) (by decide)) (one_flat [97, 98])).mono ?_; rintro e w1 ⟨v1, rfl, k1, hb1⟩)
  have IA := Lib.hid k1
  have B1 := Lib.hid hb1
  have H1 := Lib.hid (hb1)
  clear k1 hb1
  go_wp2_with fail
  (go_at_call 9; refine (text_is IA.out (⟨#[97, 98]⟩ : ByteArray) (by decide)).mono ?_; rintro e w2 ⟨rfl, hb2⟩)
  have B2 := Lib.hid hb2
  have H2 := Lib.hid (below_step H1.out hb2)
  clear hb2
  go_wp2_with fail
  (go_at_call 8; refine (new_wrong s _ (by omega) (HT.out.below H2.out) HV.out).mono ?_; rintro e w3 ⟨v3, rfl, k3, hb3⟩)
  have B3 := Lib.hid hb3
  have H3 := Lib.hid (below_step H2.out hb3)
  obtain rfl : v3 = .pointer none := k3
  clear hb3
  go_wp2_with fail
  (go_at_call 10; refine (CRs.out _).mono ?_; rintro e w4 ⟨rfl, hb4⟩)
  have B4 := Lib.hid hb4
  have H4 := Lib.hid (below_step H3.out hb4)
  clear hb4
  go_wp2
  go_ret
  exact ⟨rfl, H4.out⟩

theorem ropeNew_calls (s : ByteArray) (w : World) (hT : Tabs w) (hs : s.size ≤ 9223372036854775807) :
    Calls Tryd.prog 3 #[.string s] w fun e w' => e = .returned (.bool true) ∧ Below w.heap.size w w' := by
  by_cases h1 : s.size ≤ 4000
  · cases hvs : Lib.validD s.data.toList with
    | false => exact ropeNew_wrong s w hT h1 hvs
    | true =>
      obtain ⟨cs, hls, hes⟩ := (validD_iff _).1 hvs
      exact ropeNew_full s w hT h1 hvs cs hls hes
  · exact ropeNew_early s w hT (by omega) hs

end Go.Proofs.YtdbdcnpajeflkaaDoor.Rope
