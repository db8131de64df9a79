/- The walk of rope.Join: the rope that it makes of two. Conditions: texts of at most 2^40 bytes. -/
import Derived.Test.YtdbdcnpajeflkaaDoorGRope3
namespace Go.Proofs.YtdbdcnpajeflkaaDoor.Rope
open Go.RowKit Go.Proofs.YtdbdcnpajeflkaaDoorW.PrintWords Go.Proofs.YtdbdcnpajeflkaaDoorW.PrintLast Go.Proofs.YtdbdcnpajeflkaaDoorW.PrintMore
set_option linter.unusedVariables false
set_option linter.unusedSimpArgs false
theorem fix_cases (s t : T) (left : Bool) : (t.h ≤ s.h + 1 ∧ fix s t left = two left s t) ∨
    (∃ near far, t = two left near far ∧ ¬ t.h ≤ s.h + 1 ∧ near.h ≤ far.h ∧ fix s t left = two left (two left s near) far) ∨
    (∃ inner outer far, t = two left (two left inner outer) far ∧ ¬ t.h ≤ s.h + 1 ∧ ¬ (two left inner outer).h ≤ far.h ∧ fix s t left = two left (two left s inner) (two left outer far)) := by
  by_cases h1 : t.h ≤ s.h + 1
  · exact .inl ⟨h1, by unfold fix; rw [if_pos h1]⟩
  · refine .inr ?_
    cases t with
    | leaf x => exact absurd (Nat.zero_le _) h1
    | node tl tr =>
      cases left
      · by_cases h2 : tl.h ≤ tr.h
        · exact .inl ⟨tl, tr, rfl, h1, h2, by unfold fix; rw [if_neg h1]; simp only [Bool.false_eq_true, if_false]; rw [if_pos h2]⟩
        · cases tl with
          | leaf x => exact absurd (Nat.zero_le _) h2
          | node nl nr => exact .inr ⟨nl, nr, tr, rfl, h1, h2, by unfold fix; rw [if_neg h1]; simp only [Bool.false_eq_true, if_false]; rw [if_neg h2]⟩
      · by_cases h2 : tr.h ≤ tl.h
        · exact .inl ⟨tr, tl, rfl, h1, h2, by unfold fix; rw [if_neg h1]; simp only [if_true]; rw [if_pos h2]⟩
        · cases tr with
          | leaf x => exact absurd (Nat.zero_le _) h2
          | node nl nr => exact .inr ⟨nr, nl, tl, rfl, h1, h2, by unfold fix; rw [if_neg h1]; simp only [if_true]; rw [if_neg h2]⟩
theorem two_Ne_inv {left : Bool} {a b : T} (h : (two left a b).Ne) : a.Ne ∧ b.Ne := by cases left; exact ⟨h.1, h.2⟩; exact ⟨h.2, h.1⟩
theorem fix_Ne {s t : T} {left : Bool} (hs : s.Ne) (ht : t.Ne) : (fix s t left).Ne := by
  rcases fix_cases s t left with ⟨_, e⟩ | ⟨n, f, rfl, _, _, e⟩ | ⟨n, o, f, rfl, _, _, e⟩ <;> rw [e]
  · exact two_Ne hs ht
  · have h := two_Ne_inv ht; exact two_Ne (two_Ne hs h.1) h.2
  · have h := two_Ne_inv ht; have k := two_Ne_inv h.1; exact two_Ne (two_Ne hs k.1) (two_Ne k.2 h.2)
theorem fix_bytes (s t : T) (left : Bool) : (fix s t left).bytes = s.bytes + t.bytes := by
  rcases fix_cases s t left with ⟨_, e⟩ | ⟨n, f, rfl, _, _, e⟩ | ⟨n, o, f, rfl, _, _, e⟩ <;> rw [e] <;> simp only [two_bytes] <;> omega
theorem join_both (n : Nat) : ∀ a b : T, a.h + b.h ≤ n → (join a b).bytes = a.bytes + b.bytes ∧ (a.Ne → b.Ne → (join a b).Ne) := by
  induction n with
  | zero =>
    intro a b h
    rw [join.eq_def, if_neg (by omega), if_neg (by omega)]
    cases a with
    | node => simp [T.h] at h
    | leaf x => cases b with
      | node => simp [T.h] at h
      | leaf y =>
        split
        · exact ⟨by simp [T.bytes, T.text], fun h1 h2 => by simp only [T.Ne, T.text, ByteArray.size_append] at *; omega⟩
        · exact ⟨rfl, fun h1 h2 => ⟨h1, h2⟩⟩
  | succ n ih =>
    intro a b h
    rw [join.eq_def]
    split
    · cases a with
      | leaf x => exact ⟨rfl, fun h1 h2 => ⟨h1, h2⟩⟩
      | node al ar =>
        have k := ih ar b (by simp only [T.h] at h; omega)
        exact ⟨by rw [fix_bytes, k.1]; simp only [T.bytes]; omega, fun h1 h2 => fix_Ne h1.1 (k.2 h1.2 h2)⟩
    · split
      · cases b with
        | leaf x => exact ⟨rfl, fun h1 h2 => ⟨h1, h2⟩⟩
        | node bl br =>
          have k := ih a bl (by simp only [T.h] at h; omega)
          exact ⟨by rw [fix_bytes, k.1]; simp only [T.bytes]; omega, fun h1 h2 => fix_Ne h2.2 (k.2 h1 h2.1)⟩
      · split
        · rename_i h0
          cases a with
          | node => simp [T.h] at h0
          | leaf x => cases b with
            | node => simp [T.h] at h0
            | leaf y => exact ⟨by simp [T.bytes, T.text], fun h1 h2 => by simp only [T.Ne, T.text, ByteArray.size_append] at *; omega⟩
        · exact ⟨rfl, fun h1 h2 => ⟨h1, h2⟩⟩
theorem join_bytes (a b : T) : (join a b).bytes = a.bytes + b.bytes := (join_both _ a b (Nat.le_refl _)).1
theorem join_Ne {a b : T} (ha : a.Ne) (hb : b.Ne) : (join a b).Ne := (join_both _ a b (Nat.le_refl _)).2 ha hb
theorem gen_world {φ : World → Prop} {w W0 : World} (h : Below w.heap.size w W0) (k : ∀ W, Below w.heap.size w W → φ W) : φ W0 := k W0 h
/-- What holds all along a statement that reads two cells and makes ropes. -/
abbrev JS (w : World) (p q : Addr) (u v : Value) (w' : World) : Prop := w'.cell? p = some u ∧ w'.cell? q = some v ∧ Below w.heap.size w w'
theorem JS.b {w W : World} {p q : Addr} {u v : Value} (h : JS w p q u v W) : Below w.heap.size w W := h.2.2
theorem JS.next {w W W' : World} {p q : Addr} {u v : Value} (h : JS w p q u v W) (hb : Below W.heap.size W W') : JS w p q u v W' :=
  ⟨pw_cell_below hb h.1, pw_cell_below hb h.2.1, below_then h.2.2 h.2.2.size hb⟩

set_option maxRecDepth 100000 in
theorem join_flat_1 (a b : T) (ba bb : Nat) (w : World) (ha : IsT w a ba) (hb : IsT w b bb) (na : a.Ne) (nb : b.Ne) (hz : a.bytes + b.bytes ≤ 1099511627776) (h1 : ¬ a.h > b.h + 1) (h2 : ¬ b.h > a.h + 1) (h3 : a.h ≠ 0) :
    Calls Tryd.prog 12 #[.pointer (some ⟨ba, 0, none⟩), .pointer (some ⟨bb, 0, none⟩)] w (RetT (.node a b) w) := by
  obtain ⟨la, lb, ca⟩ := ha.cells
  obtain ⟨ra, rb, cb⟩ := hb.cells
  have a3 : w.cell? ⟨ba, 3, none⟩ = some (.int .i64 (a.h : Int)) := blk_cell ca 3
  have b3 : w.cell? ⟨bb, 3, none⟩ = some (.int .i64 (b.h : Int)) := blk_cell cb 3
  have a5 : w.cell? ⟨ba, 5, none⟩ = some (.int .i64 (a.bytes : Int)) := blk_cell ca 5
  have b5 : w.cell? ⟨bb, 5, none⟩ = some (.int .i64 (b.bytes : Int)) := blk_cell cb 5
  have a0 : w.cell? ⟨ba, 0, none⟩ = some (.string a.text) := blk_cell ca 0
  have b0 : w.cell? ⟨bb, 0, none⟩ = some (.string b.text) := blk_cell cb 0
  have i1 := a.h_lt na
  have i2 := b.h_lt nb
  have d1 : decide ((b.h : Int) + 1 < (a.h : Int)) = false := by simp; omega
  have d2 : decide ((a.h : Int) + 1 < (b.h : Int)) = false := by simp; omega
  have d3 : ((a.h : Int) == 0) = false := by simp; omega

  have w1a : IntKind.i64.wrap ((a.h : Int) + 1) = (a.h : Int) + 1 := IntWalk.i64_in _ (by omega)
  have w1b : IntKind.i64.wrap ((b.h : Int) + 1) = (b.h : Int) + 1 := IntWalk.i64_in _ (by omega)
  clear ca cb
  go_enter Tryd.func12, Tryd.ntmps12
  go_wp2
  go_quiet (fail)
  go_wp2
  go_quiet (fail)
  go_wp2
  go_quiet (fail)
  clear w1a w1b
  go_wp2_with fail
  (go_at_call 32; refine (node_calls a b ba bb _ ?c1 ?c2 na nb hz).mono ?_; (case c1 => exact ha.below (by repeat (first | exact Below.refl _ _ | apply pw_below_drewN | apply Below.drew))); (case c2 => exact hb.below (by repeat (first | exact Below.refl _ _ | apply pw_below_drewN | apply Below.drew))); rintro e w2 ⟨b2, rfl, hr, hB⟩; have HR := Lib.hid hr; have HB := Lib.hid hB; clear hr hB)
  go_wp2
  go_ret
  exact ⟨b2, rfl, HR.out, below_step (by repeat (first | exact Below.refl _ _ | apply pw_below_drewN | apply Below.drew)) HB.out⟩

set_option maxRecDepth 100000 in
theorem join_flat_2 (a b : T) (ba bb : Nat) (w : World) (ha : IsT w a ba) (hb : IsT w b bb) (na : a.Ne) (nb : b.Ne) (hz : a.bytes + b.bytes ≤ 1099511627776) (h1 : ¬ a.h > b.h + 1) (h2 : ¬ b.h > a.h + 1) (h3 : a.h = 0) (h4 : b.h ≠ 0) :
    Calls Tryd.prog 12 #[.pointer (some ⟨ba, 0, none⟩), .pointer (some ⟨bb, 0, none⟩)] w (RetT (.node a b) w) := by
  obtain ⟨la, lb, ca⟩ := ha.cells
  obtain ⟨ra, rb, cb⟩ := hb.cells
  have a3 : w.cell? ⟨ba, 3, none⟩ = some (.int .i64 (a.h : Int)) := blk_cell ca 3
  have b3 : w.cell? ⟨bb, 3, none⟩ = some (.int .i64 (b.h : Int)) := blk_cell cb 3
  have a5 : w.cell? ⟨ba, 5, none⟩ = some (.int .i64 (a.bytes : Int)) := blk_cell ca 5
  have b5 : w.cell? ⟨bb, 5, none⟩ = some (.int .i64 (b.bytes : Int)) := blk_cell cb 5
  have a0 : w.cell? ⟨ba, 0, none⟩ = some (.string a.text) := blk_cell ca 0
  have b0 : w.cell? ⟨bb, 0, none⟩ = some (.string b.text) := blk_cell cb 0
  have i1 := a.h_lt na
  have i2 := b.h_lt nb
  have d1 : decide ((b.h : Int) + 1 < (a.h : Int)) = false := by simp; omega
  have d2 : decide ((a.h : Int) + 1 < (b.h : Int)) = false := by simp; omega
  have d3 : ((a.h : Int) == 0) = true := by simp; omega
  have d4 : ((b.h : Int) == 0) = false := by simp; omega
  have H3 := Lib.hid h3; clear h3
  have w1a : IntKind.i64.wrap ((a.h : Int) + 1) = (a.h : Int) + 1 := IntWalk.i64_in _ (by omega)
  have w1b : IntKind.i64.wrap ((b.h : Int) + 1) = (b.h : Int) + 1 := IntWalk.i64_in _ (by omega)
  clear ca cb
  go_enter Tryd.func12, Tryd.ntmps12
  go_wp2
  go_quiet (fail)
  go_wp2
  go_quiet (fail)
  go_wp2
  go_quiet (fail)
  clear w1a w1b
  go_wp2_with fail
  (go_at_call 32; refine (node_calls a b ba bb _ ?c1 ?c2 na nb hz).mono ?_; (case c1 => exact ha.below (by repeat (first | exact Below.refl _ _ | apply pw_below_drewN | apply Below.drew))); (case c2 => exact hb.below (by repeat (first | exact Below.refl _ _ | apply pw_below_drewN | apply Below.drew))); rintro e w2 ⟨b2, rfl, hr, hB⟩; have HR := Lib.hid hr; have HB := Lib.hid hB; clear hr hB)
  go_wp2
  go_ret
  exact ⟨b2, rfl, HR.out, below_step (by repeat (first | exact Below.refl _ _ | apply pw_below_drewN | apply Below.drew)) HB.out⟩

set_option maxRecDepth 100000 in
theorem join_flat_3 (a b : T) (ba bb : Nat) (w : World) (ha : IsT w a ba) (hb : IsT w b bb) (na : a.Ne) (nb : b.Ne) (hz : a.bytes + b.bytes ≤ 1099511627776) (h1 : ¬ a.h > b.h + 1) (h2 : ¬ b.h > a.h + 1) (h3 : a.h = 0) (h4 : b.h = 0) (h5 : ¬ a.bytes + b.bytes ≤ 64) :
    Calls Tryd.prog 12 #[.pointer (some ⟨ba, 0, none⟩), .pointer (some ⟨bb, 0, none⟩)] w (RetT (.node a b) w) := by
  obtain ⟨la, lb, ca⟩ := ha.cells
  obtain ⟨ra, rb, cb⟩ := hb.cells
  have a3 : w.cell? ⟨ba, 3, none⟩ = some (.int .i64 (a.h : Int)) := blk_cell ca 3
  have b3 : w.cell? ⟨bb, 3, none⟩ = some (.int .i64 (b.h : Int)) := blk_cell cb 3
  have a5 : w.cell? ⟨ba, 5, none⟩ = some (.int .i64 (a.bytes : Int)) := blk_cell ca 5
  have b5 : w.cell? ⟨bb, 5, none⟩ = some (.int .i64 (b.bytes : Int)) := blk_cell cb 5
  have a0 : w.cell? ⟨ba, 0, none⟩ = some (.string a.text) := blk_cell ca 0
  have b0 : w.cell? ⟨bb, 0, none⟩ = some (.string b.text) := blk_cell cb 0
  have i1 := a.h_lt na
  have i2 := b.h_lt nb
  have d1 : decide ((b.h : Int) + 1 < (a.h : Int)) = false := by simp; omega
  have d2 : decide ((a.h : Int) + 1 < (b.h : Int)) = false := by simp; omega
  have d3 : ((a.h : Int) == 0) = true := by simp; omega
  have d4 : ((b.h : Int) == 0) = true := by simp; omega
  have w5 : IntKind.i64.wrap ((a.bytes : Int) + (b.bytes : Int)) = (a.bytes : Int) + (b.bytes : Int) := IntWalk.i64_in _ (by omega)
  have d5 : decide ((a.bytes : Int) + (b.bytes : Int) ≤ 64) = false := by simp; omega
  have H3 := Lib.hid h3; clear h3; have H4 := Lib.hid h4; clear h4
  have w1a : IntKind.i64.wrap ((a.h : Int) + 1) = (a.h : Int) + 1 := IntWalk.i64_in _ (by omega)
  have w1b : IntKind.i64.wrap ((b.h : Int) + 1) = (b.h : Int) + 1 := IntWalk.i64_in _ (by omega)
  clear ca cb
  go_enter Tryd.func12, Tryd.ntmps12
  go_wp2
  go_quiet (fail)
  go_wp2
  go_quiet (fail)
  go_wp2
  go_quiet (fail)
  clear w1a w1b
  go_wp2_with fail
  (go_at_call 32; refine (node_calls a b ba bb _ ?c1 ?c2 na nb hz).mono ?_; (case c1 => exact ha.below (by repeat (first | exact Below.refl _ _ | apply pw_below_drewN | apply Below.drew))); (case c2 => exact hb.below (by repeat (first | exact Below.refl _ _ | apply pw_below_drewN | apply Below.drew))); rintro e w2 ⟨b2, rfl, hr, hB⟩; have HR := Lib.hid hr; have HB := Lib.hid hB; clear hr hB)
  go_wp2
  go_ret
  exact ⟨b2, rfl, HR.out, below_step (by repeat (first | exact Below.refl _ _ | apply pw_below_drewN | apply Below.drew)) HB.out⟩

set_option maxRecDepth 100000 in
theorem join_leaf (a b : T) (ba bb : Nat) (w : World) (ha : IsT w a ba) (hb : IsT w b bb) (na : a.Ne) (nb : b.Ne) (hz : a.bytes + b.bytes ≤ 1099511627776) (h1 : ¬ a.h > b.h + 1) (h2 : ¬ b.h > a.h + 1) (h3 : a.h = 0) (h4 : b.h = 0) (h5 : a.bytes + b.bytes ≤ 64) :
    Calls Tryd.prog 12 #[.pointer (some ⟨ba, 0, none⟩), .pointer (some ⟨bb, 0, none⟩)] w (RetT (.leaf (a.text ++ b.text)) w) := by
  obtain ⟨la, lb, ca⟩ := ha.cells
  obtain ⟨ra, rb, cb⟩ := hb.cells
  have a3 : w.cell? ⟨ba, 3, none⟩ = some (.int .i64 (a.h : Int)) := blk_cell ca 3
  have b3 : w.cell? ⟨bb, 3, none⟩ = some (.int .i64 (b.h : Int)) := blk_cell cb 3
  have a5 : w.cell? ⟨ba, 5, none⟩ = some (.int .i64 (a.bytes : Int)) := blk_cell ca 5
  have b5 : w.cell? ⟨bb, 5, none⟩ = some (.int .i64 (b.bytes : Int)) := blk_cell cb 5
  have a0 : w.cell? ⟨ba, 0, none⟩ = some (.string a.text) := blk_cell ca 0
  have b0 : w.cell? ⟨bb, 0, none⟩ = some (.string b.text) := blk_cell cb 0
  have i1 := a.h_lt na
  have i2 := b.h_lt nb
  have d1 : decide ((b.h : Int) + 1 < (a.h : Int)) = false := by simp; omega
  have d2 : decide ((a.h : Int) + 1 < (b.h : Int)) = false := by simp; omega
  have d3 : ((a.h : Int) == 0) = true := by simp; omega
  have d4 : ((b.h : Int) == 0) = true := by simp; omega
  have w5 : IntKind.i64.wrap ((a.bytes : Int) + (b.bytes : Int)) = (a.bytes : Int) + (b.bytes : Int) := IntWalk.i64_in _ (by omega)
  have d5 : decide ((a.bytes : Int) + (b.bytes : Int) ≤ 64) = true := by simp; omega
  have hlen : (a.text ++ b.text).size ≤ 1099511627776 := by
    cases a with
    | node => simp [T.h] at h3
    | leaf x => cases b with
      | node => simp [T.h] at h4
      | leaf y => simp only [T.text, T.bytes, ByteArray.size_append] at *; omega
  have hlen2 : a.text.size + b.text.size ≤ 9223372036854775807 := by have := ByteArray.size_append (a := a.text) (b := b.text); omega
  have hlen3 : ¬ (9223372036854775807 < a.text.size + b.text.size) := by omega
  have H3 := Lib.hid h3; clear h3; have H4 := Lib.hid h4; clear h4
  have w1a : IntKind.i64.wrap ((a.h : Int) + 1) = (a.h : Int) + 1 := IntWalk.i64_in _ (by omega)
  have w1b : IntKind.i64.wrap ((b.h : Int) + 1) = (b.h : Int) + 1 := IntWalk.i64_in _ (by omega)
  clear ca cb
  go_enter Tryd.func12, Tryd.ntmps12
  go_wp2
  go_quiet (fail)
  go_wp2
  go_quiet (fail)
  go_wp2
  go_quiet (fail)
  clear w1a w1b w5
  go_wp2
  refine gen_world (φ := fun W => Code.wp _ _ _ _ W) (w := w) (by repeat (first | exact Below.refl _ _ | apply pw_below_drewN | apply Below.drew)) ?_
  intro W hBW
  have QS := Lib.hid (show JS w ⟨ba, 0, none⟩ ⟨bb, 0, none⟩ (.string a.text) (.string b.text) W from ⟨pw_cell_below hBW a0, pw_cell_below hBW b0, hBW⟩)
  clear hBW a0 b0 a3 b3 a5 b5
  go_region_held3 (fun w' => JS w ⟨ba, 0, none⟩ ⟨bb, 0, none⟩ (.string a.text) (.string b.text) w')
    (first | assumption | exact HS3.out | exact HS2.out | exact QS.out.next (by repeat (first | exact Below.refl _ _ | apply pw_below_drewN | apply Below.drew)))
    (first
      | (go_at_call 21; (refine (leaf_calls _ _ hlen).mono ?_); rintro e w2 ⟨b2, rfl, hr, hB⟩; have HS2 := Lib.hid (JS.next (w := w) (p := ⟨ba, 0, none⟩) (q := ⟨bb, 0, none⟩) (u := .string a.text) (v := .string b.text) (by assumption) hB); have HR := Lib.hid hr; clear hr hB))
  all_goals
    go_wp2
    go_ret
    exact ⟨b2, rfl, HR.out, HS2.out.2.2⟩

set_option maxRecDepth 100000 in
set_option maxHeartbeats 1000000 in
theorem join_a (al ar b : T) (ba bb : Nat) (w : World) (ha : IsT w (.node al ar) ba) (hb : IsT w b bb) (na : (T.node al ar).Ne) (nb : b.Ne) (hz : (T.node al ar).bytes + b.bytes ≤ 1099511627776) (h1 : (T.node al ar).h > b.h + 1) (ih : ∀ (b1 b2 : Nat) (W : World), IsT W ar b1 → IsT W b b2 → Calls Tryd.prog 12 #[.pointer (some ⟨b1, 0, none⟩), .pointer (some ⟨b2, 0, none⟩)] W (RetT (join ar b) W)) :
    Calls Tryd.prog 12 #[.pointer (some ⟨ba, 0, none⟩), .pointer (some ⟨bb, 0, none⟩)] w (RetT (fix al (join ar b) false) w) := by
  obtain ⟨b1, b2, cB, hx, hy⟩ := ha.sides
  obtain ⟨ra, rb, cO⟩ := hb.cells
  have i1 := (T.node al ar).h_lt na
  have i2 := b.h_lt nb
  have ZJ := Lib.hid (join_bytes ar b)
  have NJ : Hid (join ar b).Ne := (join_Ne na.2 nb)
  have NS : Hid al.Ne := na.1
  have zz : (T.node al ar).bytes = al.bytes + ar.bytes := rfl
  have ZF : Hid (al.bytes + (join ar b).bytes ≤ 1099511627776) := by show _ ≤ _; rw [join_bytes]; omega
  clear zz
  generalize hth : (T.node al ar).h = th at *
  generalize hoh : b.h = oh at *
  generalize (T.node al ar).runes = tn at *
  generalize (T.node al ar).bytes = tz at *
  clear hth hoh
  have t3 : w.cell? ⟨ba, 3, none⟩ = some (.int .i64 (th : Int)) := blk_cell cB 3
  have t1 : w.cell? ⟨ba, 1, none⟩ = some (.pointer (some ⟨b1, 0, none⟩)) := blk_cell cB 1
  have t2 : w.cell? ⟨ba, 2, none⟩ = some (.pointer (some ⟨b2, 0, none⟩)) := blk_cell cB 2
  have o3 : w.cell? ⟨bb, 3, none⟩ = some (.int .i64 (oh : Int)) := blk_cell cO 3
  have d1 : decide ((oh : Int) + 1 < (th : Int)) = true := by simp; omega
  have w1a : IntKind.i64.wrap ((th : Int) + 1) = (th : Int) + 1 := IntWalk.i64_in _ (by omega)
  have w1b : IntKind.i64.wrap ((oh : Int) + 1) = (oh : Int) + 1 := IntWalk.i64_in _ (by omega)
  have HX := Lib.hid hx
  have HY := Lib.hid hy
  have HO := Lib.hid hb
  have IH := Lib.hid ih
  clear cB cO hx hy ha hb ih
  go_enter Tryd.func12, Tryd.ntmps12
  go_wp2
  go_quiet (fail)
  go_wp2
  clear w1a w1b
  refine gen_world (φ := fun W => Code.wp _ _ _ _ W) (w := w) (by repeat (first | exact Below.refl _ _ | apply pw_below_drewN | apply Below.drew)) ?_
  intro W hBW
  have QS := Lib.hid (show JS w ⟨ba, 1, none⟩ ⟨ba, 2, none⟩ (.pointer (some ⟨b1, 0, none⟩)) (.pointer (some ⟨b2, 0, none⟩)) W from ⟨pw_cell_below hBW t1, pw_cell_below hBW t2, hBW⟩)
  clear hBW t1 t2 t3 o3
  go_region_held3 (fun w' => JS w ⟨ba, 1, none⟩ ⟨ba, 2, none⟩ (.pointer (some ⟨b1, 0, none⟩)) (.pointer (some ⟨b2, 0, none⟩)) w')
    (first | assumption | exact HS3.out | exact HS2.out | exact QS.out.next (by repeat (first | exact Below.refl _ _ | apply pw_below_drewN | apply Below.drew)))
    (first
      | (go_at_call 12; (refine (IH.out b2 bb _ ?c1 ?c2).mono ?_); (case c1 => exact HY.out.below (JS.b (p := ⟨ba, 1, none⟩) (q := ⟨ba, 2, none⟩) (u := .pointer (some ⟨b1, 0, none⟩)) (v := .pointer (some ⟨b2, 0, none⟩)) (by assumption))); (case c2 => exact HO.out.below (JS.b (p := ⟨ba, 1, none⟩) (q := ⟨ba, 2, none⟩) (u := .pointer (some ⟨b1, 0, none⟩)) (v := .pointer (some ⟨b2, 0, none⟩)) (by assumption))); rintro e w2 ⟨bj, rfl, hr, hB⟩; have HS2 := Lib.hid (JS.next (w := w) (p := ⟨ba, 1, none⟩) (q := ⟨ba, 2, none⟩) (u := .pointer (some ⟨b1, 0, none⟩)) (v := .pointer (some ⟨b2, 0, none⟩)) (by assumption) hB); have HR2 := Lib.hid hr; clear hr hB)
      | (go_at_call 31; (refine (fix_calls al (join ar b) false b1 bj _ ?c3 ?c4 NS.out NJ.out ZF.out).mono ?_); (case c3 => exact HX.out.below HS2.out.2.2); (case c4 => exact HR2.out); rintro e w3 ⟨bf, rfl, hr, hB⟩; have HS3 := Lib.hid (JS.next HS2.out hB); have HR3 := Lib.hid hr; clear hr hB))
  all_goals
    go_wp2
    go_ret
    exact ⟨bf, rfl, HR3.out, HS3.out.2.2⟩

set_option maxRecDepth 100000 in
set_option maxHeartbeats 1000000 in
theorem join_b (bl br a : T) (ba bb : Nat) (w : World) (ha : IsT w a ba) (hb : IsT w (.node bl br) bb) (na : a.Ne) (nb : (T.node bl br).Ne) (hz : a.bytes + (T.node bl br).bytes ≤ 1099511627776) (h1 : ¬ a.h > (T.node bl br).h + 1) (h2 : (T.node bl br).h > a.h + 1) (ih : ∀ (b1 b2 : Nat) (W : World), IsT W a b1 → IsT W bl b2 → Calls Tryd.prog 12 #[.pointer (some ⟨b1, 0, none⟩), .pointer (some ⟨b2, 0, none⟩)] W (RetT (join a bl) W)) :
    Calls Tryd.prog 12 #[.pointer (some ⟨ba, 0, none⟩), .pointer (some ⟨bb, 0, none⟩)] w (RetT (fix br (join a bl) true) w) := by
  obtain ⟨b1, b2, cB, hx, hy⟩ := hb.sides
  obtain ⟨ra, rb, cO⟩ := ha.cells
  have i1 := (T.node bl br).h_lt nb
  have i2 := a.h_lt na
  have ZJ := Lib.hid (join_bytes a bl)
  have NJ : Hid (join a bl).Ne := (join_Ne na nb.1)
  have NS : Hid br.Ne := nb.2
  have zz : (T.node bl br).bytes = bl.bytes + br.bytes := rfl
  have ZF : Hid (br.bytes + (join a bl).bytes ≤ 1099511627776) := by show _ ≤ _; rw [join_bytes]; omega
  clear zz
  generalize hth : (T.node bl br).h = th at *
  generalize hoh : a.h = oh at *
  generalize (T.node bl br).runes = tn at *
  generalize (T.node bl br).bytes = tz at *
  clear hth hoh
  have t3 : w.cell? ⟨bb, 3, none⟩ = some (.int .i64 (th : Int)) := blk_cell cB 3
  have t1 : w.cell? ⟨bb, 1, none⟩ = some (.pointer (some ⟨b1, 0, none⟩)) := blk_cell cB 1
  have t2 : w.cell? ⟨bb, 2, none⟩ = some (.pointer (some ⟨b2, 0, none⟩)) := blk_cell cB 2
  have o3 : w.cell? ⟨ba, 3, none⟩ = some (.int .i64 (oh : Int)) := blk_cell cO 3
  have d1 : decide ((th : Int) + 1 < (oh : Int)) = false := by simp; omega
  have d2 : decide ((oh : Int) + 1 < (th : Int)) = true := by simp; omega
  have w1a : IntKind.i64.wrap ((th : Int) + 1) = (th : Int) + 1 := IntWalk.i64_in _ (by omega)
  have w1b : IntKind.i64.wrap ((oh : Int) + 1) = (oh : Int) + 1 := IntWalk.i64_in _ (by omega)
  have HX := Lib.hid hx
  have HY := Lib.hid hy
  have HO := Lib.hid ha
  have IH := Lib.hid ih
  clear cB cO hx hy ha hb ih
  go_enter Tryd.func12, Tryd.ntmps12
  go_wp2
  go_quiet (fail)
  go_wp2
  go_quiet (fail)
  go_wp2
  clear w1a w1b
  refine gen_world (φ := fun W => Code.wp _ _ _ _ W) (w := w) (by repeat (first | exact Below.refl _ _ | apply pw_below_drewN | apply Below.drew)) ?_
  intro W hBW
  have QS := Lib.hid (show JS w ⟨bb, 1, none⟩ ⟨bb, 2, none⟩ (.pointer (some ⟨b1, 0, none⟩)) (.pointer (some ⟨b2, 0, none⟩)) W from ⟨pw_cell_below hBW t1, pw_cell_below hBW t2, hBW⟩)
  clear hBW t1 t2 t3 o3
  go_region_held3 (fun w' => JS w ⟨bb, 1, none⟩ ⟨bb, 2, none⟩ (.pointer (some ⟨b1, 0, none⟩)) (.pointer (some ⟨b2, 0, none⟩)) w')
    (first | assumption | exact HS3.out | exact HS2.out | exact QS.out.next (by repeat (first | exact Below.refl _ _ | apply pw_below_drewN | apply Below.drew)))
    (first
      | (go_at_call 12; (refine (IH.out ba b1 _ ?c1 ?c2).mono ?_); (case c1 => exact HO.out.below (JS.b (p := ⟨bb, 1, none⟩) (q := ⟨bb, 2, none⟩) (u := .pointer (some ⟨b1, 0, none⟩)) (v := .pointer (some ⟨b2, 0, none⟩)) (by assumption))); (case c2 => exact HX.out.below (JS.b (p := ⟨bb, 1, none⟩) (q := ⟨bb, 2, none⟩) (u := .pointer (some ⟨b1, 0, none⟩)) (v := .pointer (some ⟨b2, 0, none⟩)) (by assumption))); rintro e w2 ⟨bj, rfl, hr, hB⟩; have HS2 := Lib.hid (JS.next (w := w) (p := ⟨bb, 1, none⟩) (q := ⟨bb, 2, none⟩) (u := .pointer (some ⟨b1, 0, none⟩)) (v := .pointer (some ⟨b2, 0, none⟩)) (by assumption) hB); have HR2 := Lib.hid hr; clear hr hB)
      | (go_at_call 31; (refine (fix_calls br (join a bl) true b2 bj _ ?c3 ?c4 NS.out NJ.out ZF.out).mono ?_); (case c3 => exact HY.out.below HS2.out.2.2); (case c4 => exact HR2.out); rintro e w3 ⟨bf, rfl, hr, hB⟩; have HS3 := Lib.hid (JS.next HS2.out hB); have HR3 := Lib.hid hr; clear hr hB))
  all_goals
    go_wp2
    go_ret
    exact ⟨bf, rfl, HR3.out, HS3.out.2.2⟩

theorem join_calls (n : Nat) : ∀ (a b : T) (ba bb : Nat) (w : World), a.h + b.h ≤ n → IsT w a ba → IsT w b bb → a.Ne → b.Ne → a.bytes + b.bytes ≤ 1099511627776 →
    Calls Tryd.prog 12 #[.pointer (some ⟨ba, 0, none⟩), .pointer (some ⟨bb, 0, none⟩)] w (RetT (join a b) w) := by
  induction n with
  | zero =>
    intro a b ba bb w hn ha hb na nb hz
    by_cases h5 : a.bytes + b.bytes ≤ 64
    · have e : join a b = .leaf (a.text ++ b.text) := by rw [join.eq_def, if_neg (by omega), if_neg (by omega), if_pos (by omega)]
      rw [e]; exact join_leaf a b ba bb w ha hb na nb hz (by omega) (by omega) (by omega) (by omega) h5
    · have e : join a b = .node a b := by rw [join.eq_def, if_neg (by omega), if_neg (by omega), if_neg (by omega)]
      rw [e]; exact join_flat_3 a b ba bb w ha hb na nb hz (by omega) (by omega) (by omega) (by omega) h5
  | succ n ih =>
    intro a b ba bb w hn ha hb na nb hz
    by_cases h1 : a.h > b.h + 1
    · cases a with
      | leaf x => simp [T.h] at h1
      | node al ar =>
        have e : join (.node al ar) b = fix al (join ar b) false := by rw [join.eq_def, if_pos h1]
        rw [e]
        have zz : (T.node al ar).bytes = al.bytes + ar.bytes := rfl
        have zh : (T.node al ar).h = max al.h ar.h + 1 := rfl
        exact join_a al ar b ba bb w ha hb na nb hz h1 (fun b1 b2 W k1 k2 => ih ar b b1 b2 W (by omega) k1 k2 na.2 nb (by omega))
    · by_cases h2 : b.h > a.h + 1
      · cases b with
        | leaf x => simp [T.h] at h2
        | node bl br =>
          have e : join a (.node bl br) = fix br (join a bl) true := by rw [join.eq_def, if_neg h1, if_pos h2]
          rw [e]
          have zz : (T.node bl br).bytes = bl.bytes + br.bytes := rfl
          have zh : (T.node bl br).h = max bl.h br.h + 1 := rfl
          exact join_b bl br a ba bb w ha hb na nb hz h1 h2 (fun b1 b2 W k1 k2 => ih a bl b1 b2 W (by omega) k1 k2 na nb.1 (by omega))
      · by_cases h3 : a.h = 0 ∧ b.h = 0 ∧ a.bytes + b.bytes ≤ 64
        · have e : join a b = .leaf (a.text ++ b.text) := by rw [join.eq_def, if_neg h1, if_neg h2, if_pos h3]
          rw [e]; exact join_leaf a b ba bb w ha hb na nb hz h1 h2 h3.1 h3.2.1 h3.2.2
        · have e : join a b = .node a b := by rw [join.eq_def, if_neg h1, if_neg h2, if_neg h3]
          rw [e]
          by_cases h4 : a.h = 0
          · by_cases h5 : b.h = 0
            · exact join_flat_3 a b ba bb w ha hb na nb hz h1 h2 h4 h5 (fun h6 => h3 ⟨h4, h5, h6⟩)
            · exact join_flat_2 a b ba bb w ha hb na nb hz h1 h2 h4 h5
          · exact join_flat_1 a b ba bb w ha hb na nb hz h1 h2 h4

end Go.Proofs.YtdbdcnpajeflkaaDoor.Rope
