/- The walks of split at two sides, Put, Cut, Drop, Len, Bytes and Height. Conditions: texts of at most 2^40 bytes. -/
import Derived.Test.YtdbdcnpajeflkaaDoorGRope5
namespace Go.Proofs.YtdbdcnpajeflkaaDoor.Rope
open Go.RowKit Go.Proofs.YtdbdcnpajeflkaaDoorW.PrintWords Go.Proofs.YtdbdcnpajeflkaaDoorW.PrintLast Go.Proofs.YtdbdcnpajeflkaaDoorW.PrintMore
set_option linter.unusedVariables false
set_option linter.unusedSimpArgs false
attribute [local go_sem] max2_int min2_int max_two min_two
set_option maxRecDepth 100000 in
set_option maxHeartbeats 1000000 in
theorem split_left (l r : T) (b : Nat) (a : Int) (w : World) (h : IsT w (.node l r) b) (h0 : ¬ a ≤ 0) (h1 : ¬ ((T.node l r).runes : Int) ≤ a) (h2 : a < (l.runes : Int)) (nn : (T.node l r).Ne) (hz : (T.node l r).bytes ≤ 1099511627776)
    (ih : ∀ (bl : Nat) (W : World), IsT W l bl → Calls Tryd.prog 33 #[.pointer (some ⟨bl, 0, none⟩), .int .i64 a] W (Ret2 (splitT l a) W)) :
    Calls Tryd.prog 33 #[.pointer (some ⟨b, 0, none⟩), .int .i64 a] w (Ret2 ((splitT l a).1, joinO (splitT l a).2 (some r)) w) := by
  obtain ⟨bl, br, c, hl, hr⟩ := h.sides
  obtain ⟨la, lb, cl⟩ := hl.cells
  have hd : decide (a ≤ 0) = false := by simp; omega
  have hd2 : decide (((T.node l r).runes : Int) ≤ a) = false := by simp; omega
  have hd3 : decide (a < (l.runes : Int)) = true := by simp; omega
  have hd4 : (((T.node l r).h : Int) == 0) = false := by simp [T.h]; omega
  have k := splitT_both l a
  have N2 : Hid (NeO (splitT l a).2) := (k.2 nn.1).2
  have NR : Hid (NeO (some r)) := nn.2
  have Z : Hid (bytesO (splitT l a).2 + bytesO (some r) ≤ 1099511627776) := by show _ ≤ _; have := k.1; simp only [bytesO, T.bytes] at *; omega
  have c1 : w.cell? ⟨b, 1, none⟩ = some (.pointer (some ⟨bl, 0, none⟩)) := blk_cell c 1
  have c2 : w.cell? ⟨b, 2, none⟩ = some (.pointer (some ⟨br, 0, none⟩)) := blk_cell c 2
  have c3 : w.cell? ⟨b, 3, none⟩ = some (.int .i64 ((T.node l r).h : Int)) := blk_cell c 3
  have c4 : w.cell? ⟨b, 4, none⟩ = some (.int .i64 ((T.node l r).runes : Int)) := blk_cell c 4
  have l4 : w.cell? ⟨bl, 4, none⟩ = some (.int .i64 (l.runes : Int)) := blk_cell cl 4
  have IH := Lib.hid ih
  have HL := Lib.hid hl
  have HR := Lib.hid hr
  have C2 := Lib.hid c2
  clear h c cl hl hr k ih nn hz c2
  generalize (T.node l r).h = th at *
  generalize (T.node l r).runes = tn at *
  go_enter Tryd.func33, Tryd.ntmps33
  go_wp2_with fail
  (go_at_call 33; refine (IH.out bl _ HL.out).mono ?_; rintro e w1 ⟨v1, v2, rfl, k1, k2, hb⟩)
  have c2 := pw_cell_below hb C2.out
  have K1 := Lib.hid k1
  have K2 := Lib.hid k2
  have HB := Lib.hid hb
  clear k1 k2 hb c1 c3 c4 l4
  go_wp2_with fail
  (go_at_call 12; refine (joinO_calls _ (some r) v2 _ _ K2.out ⟨br, rfl, HR.out.below HB.out⟩ N2.out NR.out Z.out).mono ?_; rintro e w2 ⟨v3, rfl, k3, hb2⟩)
  have K3 := Lib.hid k3
  have HB2 := Lib.hid hb2
  clear k3 hb2 c2
  go_wp2
  go_ret2
  exact ⟨_, _, rfl, K1.out.below HB2.out, K3.out, below_step HB.out HB2.out⟩
/-- .. that reads three cells. -/
abbrev JS3 (w : World) (p q r : Addr) (u v x : Value) (w' : World) : Prop := w'.cell? p = some u ∧ w'.cell? q = some v ∧ w'.cell? r = some x ∧ Below w.heap.size w w'
theorem JS3.b {w W : World} {p q r : Addr} {u v x : Value} (h : JS3 w p q r u v x W) : Below w.heap.size w W := h.2.2.2
theorem JS3.next {w W W' : World} {p q r : Addr} {u v x : Value} (h : JS3 w p q r u v x W) (hb : Below W.heap.size W W') : JS3 w p q r u v x W' :=
  ⟨pw_cell_below hb h.1, pw_cell_below hb h.2.1, pw_cell_below hb h.2.2.1, below_then h.2.2.2 h.2.2.2.size hb⟩
set_option maxRecDepth 100000 in
set_option maxHeartbeats 1000000 in
theorem split_right (l r : T) (b : Nat) (a : Int) (w : World) (h : IsT w (.node l r) b) (h0 : ¬ a ≤ 0) (h1 : ¬ ((T.node l r).runes : Int) ≤ a) (h2 : ¬ a < (l.runes : Int)) (nn : (T.node l r).Ne) (hz : (T.node l r).bytes ≤ 1099511627776)
    (ih : ∀ (br : Nat) (W : World), IsT W r br → Calls Tryd.prog 33 #[.pointer (some ⟨br, 0, none⟩), .int .i64 (a - (l.runes : Int))] W (Ret2 (splitT r (a - (l.runes : Int))) W)) :
    Calls Tryd.prog 33 #[.pointer (some ⟨b, 0, none⟩), .int .i64 a] w (Ret2 (joinO (some l) (splitT r (a - (l.runes : Int))).1, (splitT r (a - (l.runes : Int))).2) w) := by
  obtain ⟨bl, br, c, hl, hr⟩ := h.sides
  obtain ⟨la, lb, cl⟩ := hl.cells
  have hd : decide (a ≤ 0) = false := by simp; omega
  have hd2 : decide (((T.node l r).runes : Int) ≤ a) = false := by simp; omega
  have hd3 : decide (a < (l.runes : Int)) = false := by simp; omega
  have hd4 : (((T.node l r).h : Int) == 0) = false := by simp [T.h]; omega
  have k := splitT_both r (a - (l.runes : Int))
  have N2 : Hid (NeO (splitT r (a - (l.runes : Int))).1) := (k.2 nn.2).1
  have NR : Hid (NeO (some l)) := nn.1
  have Z : Hid (bytesO (some l) + bytesO (splitT r (a - (l.runes : Int))).1 ≤ 1099511627776) := by show _ ≤ _; have := k.1; simp only [bytesO, T.bytes] at *; omega
  have i0 : (0 : Int) ≤ (l.runes : Int) := by omega
  have i1 : (l.runes : Int) ≤ a := by omega
  have i2 : a ≤ 1099511627776 := by have := (T.node l r).runes_le; omega
  have c1 : w.cell? ⟨b, 1, none⟩ = some (.pointer (some ⟨bl, 0, none⟩)) := blk_cell c 1
  have c2 : w.cell? ⟨b, 2, none⟩ = some (.pointer (some ⟨br, 0, none⟩)) := blk_cell c 2
  have c3 : w.cell? ⟨b, 3, none⟩ = some (.int .i64 ((T.node l r).h : Int)) := blk_cell c 3
  have c4 : w.cell? ⟨b, 4, none⟩ = some (.int .i64 ((T.node l r).runes : Int)) := blk_cell c 4
  have l4 : w.cell? ⟨bl, 4, none⟩ = some (.int .i64 (l.runes : Int)) := blk_cell cl 4
  have IH := Lib.hid ih
  have HL := Lib.hid hl
  have HR := Lib.hid hr
  have C1 := Lib.hid c1
  have hw : IntKind.i64.wrap (a - (l.runes : Int)) = a - (l.runes : Int) := IntWalk.i64_in _ (by omega)
  clear h c cl hl hr k ih nn hz
  generalize (T.node l r).h = th at *
  generalize (T.node l r).runes = tn at *
  go_enter Tryd.func33, Tryd.ntmps33
  go_wp2
  have QS := Lib.hid (show JS3 w ⟨b, 1, none⟩ ⟨b, 2, none⟩ ⟨bl, 4, none⟩ (.pointer (some ⟨bl, 0, none⟩)) (.pointer (some ⟨br, 0, none⟩)) (.int .i64 (l.runes : Int)) w from ⟨c1, c2, l4, Below.refl _ _⟩)
  clear c1 c2 c3 c4 l4
  go_region_held3 (fun w' => JS3 w ⟨b, 1, none⟩ ⟨b, 2, none⟩ ⟨bl, 4, none⟩ (.pointer (some ⟨bl, 0, none⟩)) (.pointer (some ⟨br, 0, none⟩)) (.int .i64 (l.runes : Int)) w')
    (first | assumption | exact HS1.out | exact QS.out.next (by repeat (first | exact Below.refl _ _ | apply pw_below_drewN | apply Below.drew)))
    (first
      | (go_at_call 33; (refine (IH.out br _ ?ca).mono ?_); (case ca => exact HR.out.below (JS3.b (w := w) (p := ⟨b, 1, none⟩) (q := ⟨b, 2, none⟩) (r := ⟨bl, 4, none⟩) (u := .pointer (some ⟨bl, 0, none⟩)) (v := .pointer (some ⟨br, 0, none⟩)) (x := .int .i64 (l.runes : Int)) (by assumption))); rintro e w1 ⟨v1, v2, rfl, k1, k2, hb⟩; have HS1 := Lib.hid (JS3.next (w := w) (p := ⟨b, 1, none⟩) (q := ⟨b, 2, none⟩) (r := ⟨bl, 4, none⟩) (u := .pointer (some ⟨bl, 0, none⟩)) (v := .pointer (some ⟨br, 0, none⟩)) (x := .int .i64 (l.runes : Int)) (by assumption) hb); have K1 := Lib.hid k1; have K2 := Lib.hid k2; clear k1 k2 hb))
  clear hw
  have c1' := HS1.out.1
  go_wp2_with fail
  (go_at_call 12; refine (joinO_calls (some l) _ _ v1 _ ⟨bl, rfl, HL.out.below HS1.out.b⟩ K1.out NR.out N2.out Z.out).mono ?_; rintro e w2 ⟨v3, rfl, k3, hb2⟩)
  have K3 := Lib.hid k3
  have HB2 := Lib.hid hb2
  clear k3 hb2 c1'
  go_wp2
  go_ret2
  exact ⟨_, _, rfl, K3.out, K2.out.below HB2.out, below_step HS1.out.b HB2.out⟩
theorem splitT_calls : ∀ (t : T) (b : Nat) (a : Int) (w : World), IsT w t b → t.Ne → t.bytes ≤ 1099511627776 →
    Calls Tryd.prog 33 #[.pointer (some ⟨b, 0, none⟩), .int .i64 a] w (Ret2 (splitT t a) w)
  | .leaf s, b, a, w, h, nn, hz => by
    unfold splitT
    by_cases h0 : a ≤ 0
    · rw [if_pos h0]; exact split_low (some (.leaf s)) _ a w ⟨b, rfl, h⟩ h0
    · by_cases h1 : (Lib.runeCount s : Int) ≤ a
      · rw [if_neg h0, if_pos h1]; exact split_high (.leaf s) b a w h h0 h1
      · rw [if_neg h0, if_neg h1]; exact split_leaf s b a w h h0 h1 hz
  | .node l r, b, a, w, h, nn, hz => by
    have z : (T.node l r).bytes = l.bytes + r.bytes := rfl
    unfold splitT
    by_cases h0 : a ≤ 0
    · rw [if_pos h0]; exact split_low (some (.node l r)) _ a w ⟨b, rfl, h⟩ h0
    · by_cases h1 : ((T.node l r).runes : Int) ≤ a
      · rw [if_neg h0, if_pos h1]; exact split_high (.node l r) b a w h h0 h1
      · rw [if_neg h0, if_neg h1]
        by_cases h2 : a < (l.runes : Int)
        · rw [if_pos h2]; exact split_left l r b a w h h0 h1 h2 nn hz (fun bl W k => splitT_calls l bl a W k nn.1 (by omega))
        · rw [if_neg h2]; exact split_right l r b a w h h0 h1 h2 nn hz (fun br W k => splitT_calls r br _ W k nn.2 (by omega))
theorem split_calls (t : Option T) (v : Value) (a : Int) (w : World) (h : IsR w v t) (nn : NeO t) (hz : bytesO t ≤ 1099511627776) :
    Calls Tryd.prog 33 #[v, .int .i64 a] w (Ret2 (splitO t a) w) := by
  cases t with
  | none => exact split_nil v a w h
  | some t => obtain ⟨b, rfl, h⟩ := h; exact splitT_calls t b a w h nn hz
/-- What Put makes. -/
def putO (t : Option T) (a : Int) (x : Option T) : Option T := joinO (joinO (splitO t a).1 x) (splitO t a).2
theorem put_calls (t x : Option T) (v u : Value) (a : Int) (w : World) (h : IsR w v t) (hx : IsR w u x) (nt : NeO t) (nx : NeO x) (hz : bytesO t + bytesO x ≤ 1099511627776) :
    Calls Tryd.prog 14 #[v, .int .i64 a, u] w (Ret (putO t a x) w) := by
  have N := splitO_Ne nt a
  have Z := splitO_bytes t a
  have N1 := Lib.hid N.1
  have N2 := Lib.hid N.2
  have N3 : Hid (NeO (joinO (splitO t a).1 x)) := joinO_Ne N.1 nx
  have Z0 : Hid (bytesO t ≤ 1099511627776) := by show _ ≤ _; omega
  have Z1 : Hid (bytesO (splitO t a).1 + bytesO x ≤ 1099511627776) := by show _ ≤ _; omega
  have Z2 : Hid (bytesO (joinO (splitO t a).1 x) + bytesO (splitO t a).2 ≤ 1099511627776) := by show _ ≤ _; rw [joinO_bytes]; omega
  have H := Lib.hid h
  have HX := Lib.hid hx
  clear N Z hz h hx
  unfold putO
  generalize hp : splitO t a = p at *
  have HP := Lib.hid hp
  clear hp
  obtain ⟨p1, p2⟩ := p
  dsimp only at *
  go_enter Tryd.func14, Tryd.ntmps14
  go_wp2_with fail
  (go_at_call 33; refine (split_calls t v a _ H.out nt Z0.out).mono ?_; rintro e w1 ⟨v1, v2, rfl, k1, k2, hb⟩)
  rw [HP.out] at k1 k2
  have K1 := Lib.hid k1
  have K2 := Lib.hid k2
  have HB := Lib.hid hb
  clear k1 k2 hb
  go_wp2_with fail
  (go_at_call 12; refine (joinO_calls p1 x v1 u _ K1.out (HX.out.below HB.out) N1.out nx Z1.out).mono ?_; rintro e w2 ⟨v3, rfl, k3, hb2⟩)
  have K3 := Lib.hid k3
  have HB2 := Lib.hid hb2
  clear k3 hb2
  go_wp2_with fail
  (go_at_call 12; refine (joinO_calls _ p2 v3 v2 _ K3.out (K2.out.below HB2.out) N3.out N2.out Z2.out).mono ?_; rintro e w3 ⟨v4, rfl, k4, hb3⟩)
  have K4 := Lib.hid k4
  have HB3 := Lib.hid hb3
  clear k4 hb3
  go_wp2
  go_ret
  exact ⟨_, rfl, K4.out, below_step (below_step HB.out HB2.out) HB3.out⟩
/-- What Cut and Drop make, of places that are 0 at least. -/
def cutO (t : Option T) (a b : Int) : Option T := if b ≤ mx a 0 then none else (splitO (splitO t b).1 (mx a 0)).2
def dropO (t : Option T) (a b : Int) : Option T := if b ≤ mx a 0 then t else joinO (splitO t (mx a 0)).1 (splitO t b).2
theorem mx_cases (a : Int) : (a < 0 ∧ mx a 0 = 0) ∨ (¬ a < 0 ∧ mx a 0 = a) := by unfold mx; by_cases h : a < 0 <;> simp [h]
theorem cut_calls (t : Option T) (v : Value) (a b : Int) (w : World) (h : IsR w v t) (nt : NeO t) (hz : bytesO t ≤ 1099511627776) :
    Calls Tryd.prog 16 #[v, .int .i64 a, .int .i64 b] w (Ret (cutO t a b) w) := by
  unfold cutO
  have hm : max a 0 = mx a 0 := by unfold mx; split <;> omega
  generalize hc : mx a 0 = c at *
  have H := Lib.hid h
  clear h
  by_cases hle : b ≤ c
  · rw [if_pos hle]
    have hd : decide (b ≤ c) = true := by simp; omega
    have hx : (if a < 0 then (0 : Int) else a) = c := by rw [← hc]; rfl
    go_enter Tryd.func16, Tryd.ntmps16
    clear hc hm
    by_cases h0 : a < 0
    all_goals
      simp only [h0, if_true, if_false] at hx
      subst hx
      go_wp2
      go_ret
      exact ⟨_, rfl, rfl, Below.refl _ _⟩
  · rw [if_neg hle]
    have hd : decide (b ≤ c) = false := by simp; omega
    have hx : (if a < 0 then (0 : Int) else a) = c := by rw [← hc]; rfl
    have N := splitO_Ne nt b
    have Z := splitO_bytes t b
    have N1 := Lib.hid N.1
    have Z1 : Hid (bytesO (splitO t b).1 ≤ 1099511627776) := by show _ ≤ _; omega
    clear N Z hc hm
    go_enter Tryd.func16, Tryd.ntmps16
    by_cases h0 : a < 0
    all_goals
      simp only [h0, if_true, if_false] at hx
      subst hx
      go_wp2_with fail
      (go_at_call 33; refine (split_calls t v b _ H.out nt hz).mono ?_; rintro e w1 ⟨v1, v2, rfl, k1, k2, hb⟩)
      have K1 := Lib.hid k1
      have HB := Lib.hid hb
      clear k1 k2 hb
      go_wp2_with fail
      (go_at_call 33; refine (split_calls _ v1 _ _ K1.out N1.out Z1.out).mono ?_; rintro e w2 ⟨v3, v4, rfl, k3, k4, hb2⟩)
      have K4 := Lib.hid k4
      have HB2 := Lib.hid hb2
      clear k3 k4 hb2
      go_wp2
      go_ret
      exact ⟨_, rfl, K4.out, below_step HB.out HB2.out⟩
theorem drop_calls (t : Option T) (v : Value) (a b : Int) (w : World) (h : IsR w v t) (nt : NeO t) (hz : bytesO t ≤ 1099511627776) (hz2 : bytesO t + bytesO t ≤ 1099511627776) :
    Calls Tryd.prog 18 #[v, .int .i64 a, .int .i64 b] w (Ret (dropO t a b) w) := by
  unfold dropO
  generalize hc : mx a 0 = c at *
  have H := Lib.hid h
  clear h
  have hx : (if a < 0 then (0 : Int) else a) = c := by rw [← hc]; rfl
  by_cases hle : b ≤ c
  · rw [if_pos hle]
    have hd : decide (b ≤ c) = true := by simp; omega
    clear hc
    go_enter Tryd.func18, Tryd.ntmps18
    by_cases h0 : a < 0
    all_goals
      simp only [h0, if_true, if_false] at hx
      subst hx
      go_wp2
      go_ret
      exact ⟨_, rfl, H.out, Below.refl _ _⟩
  · rw [if_neg hle]
    have hd : decide (b ≤ c) = false := by simp; omega
    have N := splitO_Ne nt c
    have M := splitO_Ne nt b
    have Z := splitO_bytes t c
    have Y := splitO_bytes t b
    have N1 := Lib.hid N.1
    have M2 := Lib.hid M.2
    have Z1 : Hid (bytesO (splitO t c).1 + bytesO (splitO t b).2 ≤ 1099511627776) := by show _ ≤ _; omega
    clear N M Z Y hc
    go_enter Tryd.func18, Tryd.ntmps18
    by_cases h0 : a < 0
    all_goals
      simp only [h0, if_true, if_false] at hx
      subst hx
      go_wp2_with fail
      (go_at_call 33; refine (split_calls t v _ _ H.out nt hz).mono ?_; rintro e w1 ⟨v1, v2, rfl, k1, k2, hb⟩)
      have K1 := Lib.hid k1
      have HB := Lib.hid hb
      clear k1 k2 hb
      go_wp2_with fail
      (go_at_call 33; refine (split_calls t v b _ (H.out.below HB.out) nt hz).mono ?_; rintro e w2 ⟨v3, v4, rfl, k3, k4, hb2⟩)
      have K4 := Lib.hid k4
      have HB2 := Lib.hid hb2
      clear k3 k4 hb2
      go_wp2_with fail
      (go_at_call 12; refine (joinO_calls _ _ v1 v4 _ (K1.out.below HB2.out) K4.out N1.out M2.out Z1.out).mono ?_; rintro e w3 ⟨v5, rfl, k5, hb3⟩)
      have K5 := Lib.hid k5
      have HB3 := Lib.hid hb3
      clear k5 hb3
      go_wp2
      go_ret
      exact ⟨_, rfl, K5.out, below_step (below_step HB.out HB2.out) HB3.out⟩
theorem len_calls (t : Option T) (v : Value) (w : World) (h : IsR w v t) : Calls Tryd.prog 26 #[v] w fun e w' => e = .returned (.int .i64 (runesO t : Nat)) ∧ w = w' := by
  cases t with
  | none =>
    have e : v = .pointer none := h
    subst e
    clear h
    go_enter Tryd.func26, Tryd.ntmps26
    go_wp2
    go_ret
    exact ⟨rfl, rfl⟩
  | some t =>
    obtain ⟨b, rfl, h⟩ := h
    obtain ⟨l, r, c⟩ := h.cells
    have c4 : w.cell? ⟨b, 4, none⟩ = some (.int .i64 (t.runes : Int)) := blk_cell c 4
    clear h c
    go_enter Tryd.func26, Tryd.ntmps26
    go_wp2
    go_ret
    exact ⟨rfl, rfl⟩
theorem bytes_calls (t : Option T) (v : Value) (w : World) (h : IsR w v t) : Calls Tryd.prog 28 #[v] w fun e w' => e = .returned (.int .i64 (bytesO t : Nat)) ∧ w = w' := by
  cases t with
  | none =>
    have e : v = .pointer none := h
    subst e
    clear h
    go_enter Tryd.func28, Tryd.ntmps28
    go_wp2
    go_ret
    exact ⟨rfl, rfl⟩
  | some t =>
    obtain ⟨b, rfl, h⟩ := h
    obtain ⟨l, r, c⟩ := h.cells
    have c4 : w.cell? ⟨b, 5, none⟩ = some (.int .i64 (t.bytes : Int)) := blk_cell c 5
    clear h c
    go_enter Tryd.func28, Tryd.ntmps28
    go_wp2
    go_ret
    exact ⟨rfl, rfl⟩
end Go.Proofs.YtdbdcnpajeflkaaDoor.Rope
