/- The walks of rope.fix and rope.Join: the ropes that they make. Conditions: texts of at most 2^40 bytes. -/
import Derived.Test.YtdbdcnpajeflkaaDoorGRope2
namespace Go.Proofs.YtdbdcnpajeflkaaDoor.Rope
open Go.RowKit Go.Proofs.YtdbdcnpajeflkaaDoorW.PrintWords Go.Proofs.YtdbdcnpajeflkaaDoorW.PrintLast Go.Proofs.YtdbdcnpajeflkaaDoorW.PrintMore
set_option linter.unusedVariables false
set_option linter.unusedSimpArgs false
theorem IsT.dN {w : World} {t : T} {b : Nat} (h : IsT w t b) (n : Nat) : IsT (w.drewN n) t b := h.below (pw_below_drewN (Below.refl _ _) n)
theorem two_Ne {left : Bool} {a b : T} (ha : a.Ne) (hb : b.Ne) : (two left a b).Ne := by cases left <;> exact ⟨‹_›, ‹_›⟩
theorem two_bytes (left : Bool) (a b : T) : (two left a b).bytes = a.bytes + b.bytes := by cases left <;> simp [two, T.bytes] <;> omega

set_option maxRecDepth 100000 in
theorem fix_false_1 (s t : T) (bs bt : Nat) (w : World) (hs : IsT w s bs) (ht : IsT w t bt) (ns : s.Ne) (nt : t.Ne) (hz : s.bytes + t.bytes ≤ 1099511627776) (h1 : t.h ≤ s.h + 1) :
    Calls Tryd.prog 31 #[.pointer (some ⟨bs, 0, none⟩), .pointer (some ⟨bt, 0, none⟩), .bool false] w (RetT (two false s t) w) := by
  obtain ⟨sa, sb, cs⟩ := hs.cells
  obtain ⟨ta, tb, ct⟩ := ht.cells
  have i1 := s.h_lt ns
  have i2 := t.h_lt nt
  go_enter Tryd.func31, Tryd.ntmps31
  go_upto_region 2 with (first | ((with_reducible refine gate_dst (N := 5) rfl ?_); refine box_event ?hg (N := 5) ?hd (cs := #[.bool false]) (t := 4) ?hr ?_; (case hd => rfl); (case hg => rfl); (case hr => first | (go_simp; done) | (go_simp; rfl)); intro g5 hg w1 hbox hb; have HB := Lib.hid hb; have HX := Lib.hid hbox; clear hb hbox hg))
  have x5 : w1.cell? ⟨g5, 0, none⟩ = some (.bool false) := (blk_cell HX.out 0).trans rfl
  have a1 : w1.cell? ⟨bt, 1, none⟩ = some ta := pw_cell_below HB.out (blk_cell ct 1)
  have a2 : w1.cell? ⟨bt, 2, none⟩ = some tb := pw_cell_below HB.out (blk_cell ct 2)
  have a3 : w1.cell? ⟨bt, 3, none⟩ = some (.int .i64 (t.h : Int)) := pw_cell_below HB.out (blk_cell ct 3)
  have b3 : w1.cell? ⟨bs, 3, none⟩ = some (.int .i64 (s.h : Int)) := pw_cell_below HB.out (blk_cell cs 3)
  have HS := Lib.hid (hs.below HB.out)
  have HT := Lib.hid (ht.below HB.out)
  clear hs ht cs ct
  go_quiet (fail)
  go_wp2
  have hd : decide ((t.h : Int) ≤ (s.h : Int) + 1) = true := by simp; omega
  have hw : IntKind.i64.wrap ((s.h : Int) + 1) = (s.h : Int) + 1 := IntWalk.i64_in _ (by omega)
  go_quiet (fail)
  clear hw
  go_wp2_with (go_at_call 42; refine (two_calls false s t bs bt g5 _ ?c1 ?c2 ns nt hz ?c3).mono ?_; (case c1 => exact HS.out.below (by repeat (first | exact Below.refl _ _ | apply pw_below_drewN))); (case c2 => exact HT.out.below (by repeat (first | exact Below.refl _ _ | apply pw_below_drewN))); (case c3 => go_simp); rintro e w2 ⟨b, rfl, hb, hB⟩; have HR := Lib.hid hb; have HB2 := Lib.hid hB; clear hb hB)
  go_ret
  exact ⟨b, rfl, HR.out, below_step (by repeat (first | exact HB.out | apply pw_below_drewN)) HB2.out⟩

set_option maxRecDepth 100000 in
theorem fix_false_2 (s tl tr : T) (bs bt : Nat) (w : World) (hs : IsT w s bs) (ht : IsT w (.node tl tr) bt) (ns : s.Ne) (nt : (T.node tl tr).Ne) (hz : s.bytes + (T.node tl tr).bytes ≤ 1099511627776) (h1 : ¬ (T.node tl tr).h ≤ s.h + 1) (h2 : tl.h ≤ tr.h) :
    Calls Tryd.prog 31 #[.pointer (some ⟨bs, 0, none⟩), .pointer (some ⟨bt, 0, none⟩), .bool false] w (RetT (two false (two false s tl) tr) w) := by
  obtain ⟨sa, sb, cs⟩ := hs.cells
  obtain ⟨bl, br, ct, hl, hr⟩ := ht.sides
  obtain ⟨la, lb, cl⟩ := hl.cells
  obtain ⟨ra, rb, cr⟩ := hr.cells
  have i1 := s.h_lt ns
  have i2 := (T.node tl tr).h_lt nt
  have i3 := tl.h_lt nt.1
  have i4 := tr.h_lt nt.2
  have z2 : (T.node tl tr).bytes = tl.bytes + tr.bytes := rfl
  have Z2 := Lib.hid z2
  have z3 : s.bytes + (tl.bytes + tr.bytes) ≤ 1099511627776 := hz
  clear z2
  generalize hth : (T.node tl tr).h = th at *
  generalize (T.node tl tr).runes = tn at *
  generalize (T.node tl tr).bytes = tz at *
  have HTH := Lib.hid hth
  clear hth
  go_enter Tryd.func31, Tryd.ntmps31
  go_upto_region 2 with (first | ((with_reducible refine gate_dst (N := 5) rfl ?_); refine box_event ?hg (N := 5) ?hd (cs := #[.bool false]) (t := 4) ?hr ?_; (case hd => rfl); (case hg => rfl); (case hr => first | (go_simp; done) | (go_simp; rfl)); intro g5 hg w1 hbox hb; have HB := Lib.hid hb; have HX := Lib.hid hbox; clear hb hbox hg))
  have x5 : w1.cell? ⟨g5, 0, none⟩ = some (.bool false) := (blk_cell HX.out 0).trans rfl
  have a1 : w1.cell? ⟨bt, 1, none⟩ = some (.pointer (some ⟨bl, 0, none⟩)) := pw_cell_below HB.out (blk_cell ct 1)
  have a2 : w1.cell? ⟨bt, 2, none⟩ = some (.pointer (some ⟨br, 0, none⟩)) := pw_cell_below HB.out (blk_cell ct 2)
  have a3 : w1.cell? ⟨bt, 3, none⟩ = some (.int .i64 (th : Int)) := pw_cell_below HB.out (blk_cell ct 3)
  have b3 : w1.cell? ⟨bs, 3, none⟩ = some (.int .i64 (s.h : Int)) := pw_cell_below HB.out (blk_cell cs 3)
  have l3 : w1.cell? ⟨bl, 3, none⟩ = some (.int .i64 (tl.h : Int)) := pw_cell_below HB.out (blk_cell cl 3)
  have r3 : w1.cell? ⟨br, 3, none⟩ = some (.int .i64 (tr.h : Int)) := pw_cell_below HB.out (blk_cell cr 3)
  have HS := Lib.hid (hs.below HB.out)
  have HL := Lib.hid (hl.below HB.out)
  have HR0 := Lib.hid (hr.below HB.out)
  clear hs ht cs ct cl cr hl hr
  go_quiet (fail)
  go_wp2
  have hd : decide ((th : Int) ≤ (s.h : Int) + 1) = false := by simp; omega
  have hw : IntKind.i64.wrap ((s.h : Int) + 1) = (s.h : Int) + 1 := IntWalk.i64_in _ (by omega)
  go_quiet (fail)
  clear hw
  go_wp2
  have hd2 : decide ((tl.h : Int) ≤ (tr.h : Int)) = true := by simp; omega
  go_quiet (fail)
  clear hd hd2
  have NX : Hid (two false s tl).Ne := two_Ne ns nt.1
  have ZX := Lib.hid (two_bytes false s tl)
  go_wp2_with fail
  (go_at_call 42; refine (two_calls false s tl bs bl g5 _ ?c1a ?c2a ns nt.1 (by omega) ?c3a).mono ?_; (case c1a => exact HS.out.below (by repeat (first | exact Below.refl _ _ | apply pw_below_drewN))); (case c2a => exact HL.out.below (by repeat (first | exact Below.refl _ _ | apply pw_below_drewN))); (case c3a => exact pw_cell_below (by repeat (first | exact Below.refl _ _ | apply pw_below_drewN)) x5); rintro e w2 ⟨bw2, rfl, hb, hB⟩; have HRw2 := Lib.hid hb; have HBw2 := Lib.hid hB; clear hb hB)
  go_wp2_with fail
  (go_at_call 42; refine (two_calls false (two false s tl) tr bw2 br g5 _ ?c1b ?c2b NX.out nt.2 (by have := ZX.out; omega) ?c3b).mono ?_; (case c1b => exact HRw2.out); (case c2b => exact HR0.out.below (below_step (by repeat (first | exact Below.refl _ _ | apply pw_below_drewN)) HBw2.out)); (case c3b => exact pw_cell_below (below_step (by repeat (first | exact Below.refl _ _ | apply pw_below_drewN)) HBw2.out) x5); rintro e w3 ⟨bw3, rfl, hb, hB⟩; have HRw3 := Lib.hid hb; have HBw3 := Lib.hid hB; clear hb hB)
  go_wp2
  go_ret
  exact ⟨bw3, rfl, HRw3.out, below_step (below_step (by repeat (first | exact HB.out | apply pw_below_drewN)) HBw2.out) HBw3.out⟩

set_option maxRecDepth 100000 in
theorem fix_false_3 (s nl nr tr : T) (bs bt : Nat) (w : World) (hs : IsT w s bs) (ht : IsT w (.node (.node nl nr) tr) bt) (ns : s.Ne) (nt : (T.node (.node nl nr) tr).Ne) (hz : s.bytes + (T.node (.node nl nr) tr).bytes ≤ 1099511627776) (h1 : ¬ (T.node (.node nl nr) tr).h ≤ s.h + 1) (h2 : ¬ (T.node nl nr).h ≤ tr.h) :
    Calls Tryd.prog 31 #[.pointer (some ⟨bs, 0, none⟩), .pointer (some ⟨bt, 0, none⟩), .bool false] w (RetT (two false (two false s nl) (two false nr tr)) w) := by
  obtain ⟨sa, sb, cs⟩ := hs.cells
  obtain ⟨bl, br, ct, hl, hr⟩ := ht.sides
  obtain ⟨bnl, bnr, cl, hnl, hnr⟩ := hl.sides
  obtain ⟨ra, rb, cr⟩ := hr.cells
  have i1 := s.h_lt ns
  have i2 := (T.node (.node nl nr) tr).h_lt nt
  have i3 := (T.node nl nr).h_lt nt.1
  have i4 := tr.h_lt nt.2
  have z2 : (T.node (.node nl nr) tr).bytes = (T.node nl nr).bytes + tr.bytes := rfl
  have Z2 := Lib.hid z2
  have z3 : s.bytes + ((T.node nl nr).bytes + tr.bytes) ≤ 1099511627776 := hz
  clear z2
  have z4 : (T.node nl nr).bytes = nl.bytes + nr.bytes := rfl
  generalize hnh : (T.node nl nr).h = nh at *
  have HNH := Lib.hid hnh
  clear hnh
  generalize hth : (T.node (.node nl nr) tr).h = th at *
  generalize (T.node (.node nl nr) tr).runes = tn at *
  generalize (T.node (.node nl nr) tr).bytes = tz at *
  have HTH := Lib.hid hth
  clear hth
  go_enter Tryd.func31, Tryd.ntmps31
  go_upto_region 2 with (first | ((with_reducible refine gate_dst (N := 5) rfl ?_); refine box_event ?hg (N := 5) ?hd (cs := #[.bool false]) (t := 4) ?hr ?_; (case hd => rfl); (case hg => rfl); (case hr => first | (go_simp; done) | (go_simp; rfl)); intro g5 hg w1 hbox hb; have HB := Lib.hid hb; have HX := Lib.hid hbox; clear hb hbox hg))
  have x5 : w1.cell? ⟨g5, 0, none⟩ = some (.bool false) := (blk_cell HX.out 0).trans rfl
  have a1 : w1.cell? ⟨bt, 1, none⟩ = some (.pointer (some ⟨bl, 0, none⟩)) := pw_cell_below HB.out (blk_cell ct 1)
  have a2 : w1.cell? ⟨bt, 2, none⟩ = some (.pointer (some ⟨br, 0, none⟩)) := pw_cell_below HB.out (blk_cell ct 2)
  have a3 : w1.cell? ⟨bt, 3, none⟩ = some (.int .i64 (th : Int)) := pw_cell_below HB.out (blk_cell ct 3)
  have b3 : w1.cell? ⟨bs, 3, none⟩ = some (.int .i64 (s.h : Int)) := pw_cell_below HB.out (blk_cell cs 3)
  have l3 : w1.cell? ⟨bl, 3, none⟩ = some (.int .i64 (nh : Int)) := pw_cell_below HB.out (blk_cell cl 3)
  have r3 : w1.cell? ⟨br, 3, none⟩ = some (.int .i64 (tr.h : Int)) := pw_cell_below HB.out (blk_cell cr 3)
  have n1 : w1.cell? ⟨bl, 1, none⟩ = some (.pointer (some ⟨bnl, 0, none⟩)) := pw_cell_below HB.out (blk_cell cl 1)
  have n2 : w1.cell? ⟨bl, 2, none⟩ = some (.pointer (some ⟨bnr, 0, none⟩)) := pw_cell_below HB.out (blk_cell cl 2)
  have HNL := Lib.hid (hnl.below HB.out)
  have HNR := Lib.hid (hnr.below HB.out)
  have Z4 := Lib.hid z4
  clear z4
  have HS := Lib.hid (hs.below HB.out)
  have HL := Lib.hid (hl.below HB.out)
  have HR0 := Lib.hid (hr.below HB.out)
  clear hs ht cs ct cl cr hl hr hnl hnr
  go_quiet (fail)
  go_wp2
  have hd : decide ((th : Int) ≤ (s.h : Int) + 1) = false := by simp; omega
  have hw : IntKind.i64.wrap ((s.h : Int) + 1) = (s.h : Int) + 1 := IntWalk.i64_in _ (by omega)
  go_quiet (fail)
  clear hw
  go_wp2
  have hd2 : decide ((nh : Int) ≤ (tr.h : Int)) = false := by simp; omega
  go_quiet (fail)
  clear hd hd2
  go_wp2
  go_quiet (fail)
  have NX : Hid (two false s nl).Ne := two_Ne ns nt.1.1
  have ZX := Lib.hid (two_bytes false s nl)
  have NY : Hid (two false nr tr).Ne := two_Ne nt.1.2 nt.2
  have ZY := Lib.hid (two_bytes false nr tr)
  have z5 : s.bytes + nl.bytes ≤ 1099511627776 := by have := Z4.out; omega
  have z6 : nr.bytes + tr.bytes ≤ 1099511627776 := by have := Z4.out; omega
  have z7 : (two false s nl).bytes + (two false nr tr).bytes ≤ 1099511627776 := by have := Z4.out; have := ZX.out; have := ZY.out; omega
  go_wp2_with fail
  (go_at_call 42; refine (two_calls false s nl bs bnl g5 _ ?c1a ?c2a ns nt.1.1 z5 ?c3a).mono ?_; (case c1a => exact HS.out.below (by repeat (first | exact Below.refl _ _ | apply pw_below_drewN))); (case c2a => exact HNL.out.below (by repeat (first | exact Below.refl _ _ | apply pw_below_drewN))); (case c3a => exact pw_cell_below (by repeat (first | exact Below.refl _ _ | apply pw_below_drewN)) x5); rintro e w2 ⟨bw2, rfl, hb, hB⟩; have HRw2 := Lib.hid hb; have HBw2 := Lib.hid hB; clear hb hB)
  go_wp2_with fail
  (go_at_call 42; refine (two_calls false nr tr bnr br g5 _ ?c1b ?c2b nt.1.2 nt.2 z6 ?c3b).mono ?_; (case c1b => exact HNR.out.below (below_step (by repeat (first | exact Below.refl _ _ | apply pw_below_drewN)) HBw2.out)); (case c2b => exact HR0.out.below (below_step (by repeat (first | exact Below.refl _ _ | apply pw_below_drewN)) HBw2.out)); (case c3b => exact pw_cell_below (below_step (by repeat (first | exact Below.refl _ _ | apply pw_below_drewN)) HBw2.out) x5); rintro e w3 ⟨bw3, rfl, hb, hB⟩; have HRw3 := Lib.hid hb; have HBw3 := Lib.hid hB; clear hb hB)
  go_wp2_with fail
  (go_at_call 42; refine (two_calls false (two false s nl) (two false nr tr) bw2 bw3 g5 _ ?c1c ?c2c NX.out NY.out z7 ?c3c).mono ?_; (case c1c => exact HRw2.out.below HBw3.out); (case c2c => exact HRw3.out); (case c3c => exact pw_cell_below (below_step (below_step (by repeat (first | exact Below.refl _ _ | apply pw_below_drewN)) HBw2.out) HBw3.out) x5); rintro e w4 ⟨bw4, rfl, hb, hB⟩; have HRw4 := Lib.hid hb; have HBw4 := Lib.hid hB; clear hb hB)
  go_wp2
  go_ret
  exact ⟨bw4, rfl, HRw4.out, below_step (below_step (below_step (by repeat (first | exact HB.out | apply pw_below_drewN)) HBw2.out) HBw3.out) HBw4.out⟩

set_option maxRecDepth 100000 in
theorem fix_true_1 (s t : T) (bs bt : Nat) (w : World) (hs : IsT w s bs) (ht : IsT w t bt) (ns : s.Ne) (nt : t.Ne) (hz : s.bytes + t.bytes ≤ 1099511627776) (h1 : t.h ≤ s.h + 1) :
    Calls Tryd.prog 31 #[.pointer (some ⟨bs, 0, none⟩), .pointer (some ⟨bt, 0, none⟩), .bool true] w (RetT (two true s t) w) := by
  obtain ⟨sa, sb, cs⟩ := hs.cells
  obtain ⟨ta, tb, ct⟩ := ht.cells
  have i1 := s.h_lt ns
  have i2 := t.h_lt nt
  go_enter Tryd.func31, Tryd.ntmps31
  go_upto_region 2 with (first | ((with_reducible refine gate_dst (N := 5) rfl ?_); refine box_event ?hg (N := 5) ?hd (cs := #[.bool true]) (t := 4) ?hr ?_; (case hd => rfl); (case hg => rfl); (case hr => first | (go_simp; done) | (go_simp; rfl)); intro g5 hg w1 hbox hb; have HB := Lib.hid hb; have HX := Lib.hid hbox; clear hb hbox hg))
  have x5 : w1.cell? ⟨g5, 0, none⟩ = some (.bool true) := (blk_cell HX.out 0).trans rfl
  have a1 : w1.cell? ⟨bt, 1, none⟩ = some ta := pw_cell_below HB.out (blk_cell ct 1)
  have a2 : w1.cell? ⟨bt, 2, none⟩ = some tb := pw_cell_below HB.out (blk_cell ct 2)
  have a3 : w1.cell? ⟨bt, 3, none⟩ = some (.int .i64 (t.h : Int)) := pw_cell_below HB.out (blk_cell ct 3)
  have b3 : w1.cell? ⟨bs, 3, none⟩ = some (.int .i64 (s.h : Int)) := pw_cell_below HB.out (blk_cell cs 3)
  have HS := Lib.hid (hs.below HB.out)
  have HT := Lib.hid (ht.below HB.out)
  clear hs ht cs ct
  go_quiet (fail)
  go_wp2
  have hd : decide ((t.h : Int) ≤ (s.h : Int) + 1) = true := by simp; omega
  have hw : IntKind.i64.wrap ((s.h : Int) + 1) = (s.h : Int) + 1 := IntWalk.i64_in _ (by omega)
  go_quiet (fail)
  clear hw
  go_wp2_with (go_at_call 42; refine (two_calls true s t bs bt g5 _ ?c1 ?c2 ns nt hz ?c3).mono ?_; (case c1 => exact HS.out.below (by repeat (first | exact Below.refl _ _ | apply pw_below_drewN))); (case c2 => exact HT.out.below (by repeat (first | exact Below.refl _ _ | apply pw_below_drewN))); (case c3 => go_simp); rintro e w2 ⟨b, rfl, hb, hB⟩; have HR := Lib.hid hb; have HB2 := Lib.hid hB; clear hb hB)
  go_ret
  exact ⟨b, rfl, HR.out, below_step (by repeat (first | exact HB.out | apply pw_below_drewN)) HB2.out⟩

set_option maxRecDepth 100000 in
theorem fix_true_2 (s tl tr : T) (bs bt : Nat) (w : World) (hs : IsT w s bs) (ht : IsT w (.node tl tr) bt) (ns : s.Ne) (nt : (T.node tl tr).Ne) (hz : s.bytes + (T.node tl tr).bytes ≤ 1099511627776) (h1 : ¬ (T.node tl tr).h ≤ s.h + 1) (h2 : tr.h ≤ tl.h) :
    Calls Tryd.prog 31 #[.pointer (some ⟨bs, 0, none⟩), .pointer (some ⟨bt, 0, none⟩), .bool true] w (RetT (two true (two true s tr) tl) w) := by
  obtain ⟨sa, sb, cs⟩ := hs.cells
  obtain ⟨bl, br, ct, hl, hr⟩ := ht.sides
  obtain ⟨la, lb, cl⟩ := hl.cells
  obtain ⟨ra, rb, cr⟩ := hr.cells
  have i1 := s.h_lt ns
  have i2 := (T.node tl tr).h_lt nt
  have i3 := tl.h_lt nt.1
  have i4 := tr.h_lt nt.2
  have z2 : (T.node tl tr).bytes = tl.bytes + tr.bytes := rfl
  have Z2 := Lib.hid z2
  have z3 : s.bytes + (tl.bytes + tr.bytes) ≤ 1099511627776 := hz
  clear z2
  generalize hth : (T.node tl tr).h = th at *
  generalize (T.node tl tr).runes = tn at *
  generalize (T.node tl tr).bytes = tz at *
  have HTH := Lib.hid hth
  clear hth
  go_enter Tryd.func31, Tryd.ntmps31
  go_upto_region 2 with (first | ((with_reducible refine gate_dst (N := 5) rfl ?_); refine box_event ?hg (N := 5) ?hd (cs := #[.bool true]) (t := 4) ?hr ?_; (case hd => rfl); (case hg => rfl); (case hr => first | (go_simp; done) | (go_simp; rfl)); intro g5 hg w1 hbox hb; have HB := Lib.hid hb; have HX := Lib.hid hbox; clear hb hbox hg))
  have x5 : w1.cell? ⟨g5, 0, none⟩ = some (.bool true) := (blk_cell HX.out 0).trans rfl
  have a1 : w1.cell? ⟨bt, 1, none⟩ = some (.pointer (some ⟨bl, 0, none⟩)) := pw_cell_below HB.out (blk_cell ct 1)
  have a2 : w1.cell? ⟨bt, 2, none⟩ = some (.pointer (some ⟨br, 0, none⟩)) := pw_cell_below HB.out (blk_cell ct 2)
  have a3 : w1.cell? ⟨bt, 3, none⟩ = some (.int .i64 (th : Int)) := pw_cell_below HB.out (blk_cell ct 3)
  have b3 : w1.cell? ⟨bs, 3, none⟩ = some (.int .i64 (s.h : Int)) := pw_cell_below HB.out (blk_cell cs 3)
  have l3 : w1.cell? ⟨bl, 3, none⟩ = some (.int .i64 (tl.h : Int)) := pw_cell_below HB.out (blk_cell cl 3)
  have r3 : w1.cell? ⟨br, 3, none⟩ = some (.int .i64 (tr.h : Int)) := pw_cell_below HB.out (blk_cell cr 3)
  have HS := Lib.hid (hs.below HB.out)
  have HL := Lib.hid (hl.below HB.out)
  have HR0 := Lib.hid (hr.below HB.out)
  clear hs ht cs ct cl cr hl hr
  go_quiet (fail)
  go_wp2
  have hd : decide ((th : Int) ≤ (s.h : Int) + 1) = false := by simp; omega
  have hw : IntKind.i64.wrap ((s.h : Int) + 1) = (s.h : Int) + 1 := IntWalk.i64_in _ (by omega)
  go_quiet (fail)
  clear hw
  go_wp2
  have hd2 : decide ((tr.h : Int) ≤ (tl.h : Int)) = true := by simp; omega
  go_quiet (fail)
  clear hd hd2
  have NX : Hid (two true s tr).Ne := two_Ne ns nt.2
  have ZX := Lib.hid (two_bytes true s tr)
  go_wp2_with fail
  (go_at_call 42; refine (two_calls true s tr bs br g5 _ ?c1a ?c2a ns nt.2 (by omega) ?c3a).mono ?_; (case c1a => exact HS.out.below (by repeat (first | exact Below.refl _ _ | apply pw_below_drewN))); (case c2a => exact HR0.out.below (by repeat (first | exact Below.refl _ _ | apply pw_below_drewN))); (case c3a => exact pw_cell_below (by repeat (first | exact Below.refl _ _ | apply pw_below_drewN)) x5); rintro e w2 ⟨bw2, rfl, hb, hB⟩; have HRw2 := Lib.hid hb; have HBw2 := Lib.hid hB; clear hb hB)
  go_wp2_with fail
  (go_at_call 42; refine (two_calls true (two true s tr) tl bw2 bl g5 _ ?c1b ?c2b NX.out nt.1 (by have := ZX.out; omega) ?c3b).mono ?_; (case c1b => exact HRw2.out); (case c2b => exact HL.out.below (below_step (by repeat (first | exact Below.refl _ _ | apply pw_below_drewN)) HBw2.out)); (case c3b => exact pw_cell_below (below_step (by repeat (first | exact Below.refl _ _ | apply pw_below_drewN)) HBw2.out) x5); rintro e w3 ⟨bw3, rfl, hb, hB⟩; have HRw3 := Lib.hid hb; have HBw3 := Lib.hid hB; clear hb hB)
  go_wp2
  go_ret
  exact ⟨bw3, rfl, HRw3.out, below_step (below_step (by repeat (first | exact HB.out | apply pw_below_drewN)) HBw2.out) HBw3.out⟩

set_option maxRecDepth 100000 in
theorem fix_true_3 (s nl nr tl : T) (bs bt : Nat) (w : World) (hs : IsT w s bs) (ht : IsT w (.node tl (.node nl nr)) bt) (ns : s.Ne) (nt : (T.node tl (.node nl nr)).Ne) (hz : s.bytes + (T.node tl (.node nl nr)).bytes ≤ 1099511627776) (h1 : ¬ (T.node tl (.node nl nr)).h ≤ s.h + 1) (h2 : ¬ (T.node nl nr).h ≤ tl.h) :
    Calls Tryd.prog 31 #[.pointer (some ⟨bs, 0, none⟩), .pointer (some ⟨bt, 0, none⟩), .bool true] w (RetT (two true (two true s nr) (two true nl tl)) w) := by
  obtain ⟨sa, sb, cs⟩ := hs.cells
  obtain ⟨bl, br, ct, hl, hr⟩ := ht.sides
  obtain ⟨la, lb, cl⟩ := hl.cells
  obtain ⟨bnl, bnr, cr, hnl, hnr⟩ := hr.sides
  have i1 := s.h_lt ns
  have i2 := (T.node tl (.node nl nr)).h_lt nt
  have i3 := tl.h_lt nt.1
  have i4 := (T.node nl nr).h_lt nt.2
  have z2 : (T.node tl (.node nl nr)).bytes = tl.bytes + (T.node nl nr).bytes := rfl
  have Z2 := Lib.hid z2
  have z3 : s.bytes + (tl.bytes + (T.node nl nr).bytes) ≤ 1099511627776 := hz
  clear z2
  have z4 : (T.node nl nr).bytes = nl.bytes + nr.bytes := rfl
  generalize hnh : (T.node nl nr).h = nh at *
  have HNH := Lib.hid hnh
  clear hnh
  generalize hth : (T.node tl (.node nl nr)).h = th at *
  generalize (T.node tl (.node nl nr)).runes = tn at *
  generalize (T.node tl (.node nl nr)).bytes = tz at *
  have HTH := Lib.hid hth
  clear hth
  go_enter Tryd.func31, Tryd.ntmps31
  go_upto_region 2 with (first | ((with_reducible refine gate_dst (N := 5) rfl ?_); refine box_event ?hg (N := 5) ?hd (cs := #[.bool true]) (t := 4) ?hr ?_; (case hd => rfl); (case hg => rfl); (case hr => first | (go_simp; done) | (go_simp; rfl)); intro g5 hg w1 hbox hb; have HB := Lib.hid hb; have HX := Lib.hid hbox; clear hb hbox hg))
  have x5 : w1.cell? ⟨g5, 0, none⟩ = some (.bool true) := (blk_cell HX.out 0).trans rfl
  have a1 : w1.cell? ⟨bt, 1, none⟩ = some (.pointer (some ⟨bl, 0, none⟩)) := pw_cell_below HB.out (blk_cell ct 1)
  have a2 : w1.cell? ⟨bt, 2, none⟩ = some (.pointer (some ⟨br, 0, none⟩)) := pw_cell_below HB.out (blk_cell ct 2)
  have a3 : w1.cell? ⟨bt, 3, none⟩ = some (.int .i64 (th : Int)) := pw_cell_below HB.out (blk_cell ct 3)
  have b3 : w1.cell? ⟨bs, 3, none⟩ = some (.int .i64 (s.h : Int)) := pw_cell_below HB.out (blk_cell cs 3)
  have l3 : w1.cell? ⟨bl, 3, none⟩ = some (.int .i64 (tl.h : Int)) := pw_cell_below HB.out (blk_cell cl 3)
  have r3 : w1.cell? ⟨br, 3, none⟩ = some (.int .i64 (nh : Int)) := pw_cell_below HB.out (blk_cell cr 3)
  have n1 : w1.cell? ⟨br, 1, none⟩ = some (.pointer (some ⟨bnl, 0, none⟩)) := pw_cell_below HB.out (blk_cell cr 1)
  have n2 : w1.cell? ⟨br, 2, none⟩ = some (.pointer (some ⟨bnr, 0, none⟩)) := pw_cell_below HB.out (blk_cell cr 2)
  have HNL := Lib.hid (hnl.below HB.out)
  have HNR := Lib.hid (hnr.below HB.out)
  have Z4 := Lib.hid z4
  clear z4
  have HS := Lib.hid (hs.below HB.out)
  have HL := Lib.hid (hl.below HB.out)
  have HR0 := Lib.hid (hr.below HB.out)
  clear hs ht cs ct cl cr hl hr hnl hnr
  go_quiet (fail)
  go_wp2
  have hd : decide ((th : Int) ≤ (s.h : Int) + 1) = false := by simp; omega
  have hw : IntKind.i64.wrap ((s.h : Int) + 1) = (s.h : Int) + 1 := IntWalk.i64_in _ (by omega)
  go_quiet (fail)
  clear hw
  go_wp2
  have hd2 : decide ((nh : Int) ≤ (tl.h : Int)) = false := by simp; omega
  go_quiet (fail)
  clear hd hd2
  go_wp2
  go_quiet (fail)
  have NX : Hid (two true s nr).Ne := two_Ne ns nt.2.2
  have ZX := Lib.hid (two_bytes true s nr)
  have NY : Hid (two true nl tl).Ne := two_Ne nt.2.1 nt.1
  have ZY := Lib.hid (two_bytes true nl tl)
  have z5 : s.bytes + nr.bytes ≤ 1099511627776 := by have := Z4.out; omega
  have z6 : nl.bytes + tl.bytes ≤ 1099511627776 := by have := Z4.out; omega
  have z7 : (two true s nr).bytes + (two true nl tl).bytes ≤ 1099511627776 := by have := Z4.out; have := ZX.out; have := ZY.out; omega
  go_wp2_with fail
  (go_at_call 42; refine (two_calls true s nr bs bnr g5 _ ?c1a ?c2a ns nt.2.2 z5 ?c3a).mono ?_; (case c1a => exact HS.out.below (by repeat (first | exact Below.refl _ _ | apply pw_below_drewN))); (case c2a => exact HNR.out.below (by repeat (first | exact Below.refl _ _ | apply pw_below_drewN))); (case c3a => exact pw_cell_below (by repeat (first | exact Below.refl _ _ | apply pw_below_drewN)) x5); rintro e w2 ⟨bw2, rfl, hb, hB⟩; have HRw2 := Lib.hid hb; have HBw2 := Lib.hid hB; clear hb hB)
  go_wp2_with fail
  (go_at_call 42; refine (two_calls true nl tl bnl bl g5 _ ?c1b ?c2b nt.2.1 nt.1 z6 ?c3b).mono ?_; (case c1b => exact HNL.out.below (below_step (by repeat (first | exact Below.refl _ _ | apply pw_below_drewN)) HBw2.out)); (case c2b => exact HL.out.below (below_step (by repeat (first | exact Below.refl _ _ | apply pw_below_drewN)) HBw2.out)); (case c3b => exact pw_cell_below (below_step (by repeat (first | exact Below.refl _ _ | apply pw_below_drewN)) HBw2.out) x5); rintro e w3 ⟨bw3, rfl, hb, hB⟩; have HRw3 := Lib.hid hb; have HBw3 := Lib.hid hB; clear hb hB)
  go_wp2_with fail
  (go_at_call 42; refine (two_calls true (two true s nr) (two true nl tl) bw2 bw3 g5 _ ?c1c ?c2c NX.out NY.out z7 ?c3c).mono ?_; (case c1c => exact HRw2.out.below HBw3.out); (case c2c => exact HRw3.out); (case c3c => exact pw_cell_below (below_step (below_step (by repeat (first | exact Below.refl _ _ | apply pw_below_drewN)) HBw2.out) HBw3.out) x5); rintro e w4 ⟨bw4, rfl, hb, hB⟩; have HRw4 := Lib.hid hb; have HBw4 := Lib.hid hB; clear hb hB)
  go_wp2
  go_ret
  exact ⟨bw4, rfl, HRw4.out, below_step (below_step (below_step (by repeat (first | exact HB.out | apply pw_below_drewN)) HBw2.out) HBw3.out) HBw4.out⟩

theorem fix_calls (s t : T) (left : Bool) (bs bt : Nat) (w : World) (hs : IsT w s bs) (ht : IsT w t bt) (ns : s.Ne) (nt : t.Ne) (hz : s.bytes + t.bytes ≤ 1099511627776) :
    Calls Tryd.prog 31 #[.pointer (some ⟨bs, 0, none⟩), .pointer (some ⟨bt, 0, none⟩), .bool left] w (RetT (fix s t left) w) := by
  by_cases h1 : t.h ≤ s.h + 1
  · have e : fix s t left = two left s t := by unfold fix; rw [if_pos h1]
    rw [e]
    cases left
    · exact fix_false_1 s t bs bt w hs ht ns nt hz h1
    · exact fix_true_1 s t bs bt w hs ht ns nt hz h1
  · cases t with
    | leaf x => exact absurd (Nat.zero_le _) h1
    | node tl tr =>
      cases left
      · by_cases h2 : tl.h ≤ tr.h
        · have e : fix s (.node tl tr) false = two false (two false s tl) tr := by unfold fix; rw [if_neg h1]; simp only [Bool.false_eq_true, if_false]; rw [if_pos h2]
          rw [e]
          exact fix_false_2 s tl tr bs bt w hs ht ns nt hz h1 h2
        · cases tl with
          | leaf x => exact absurd (Nat.zero_le _) h2
          | node nl nr =>
            have e : fix s (.node (.node nl nr) tr) false = two false (two false s nl) (two false nr tr) := by unfold fix; rw [if_neg h1]; simp only [Bool.false_eq_true, if_false]; rw [if_neg h2]
            rw [e]
            exact fix_false_3 s nl nr tr bs bt w hs ht ns nt hz h1 h2
      · by_cases h2 : tr.h ≤ tl.h
        · have e : fix s (.node tl tr) true = two true (two true s tr) tl := by unfold fix; rw [if_neg h1]; simp only [if_true]; rw [if_pos h2]
          rw [e]
          exact fix_true_2 s tl tr bs bt w hs ht ns nt hz h1 h2
        · cases tr with
          | leaf x => exact absurd (Nat.zero_le _) h2
          | node nl nr =>
            have e : fix s (.node tl (.node nl nr)) true = two true (two true s nr) (two true nl tl) := by unfold fix; rw [if_neg h1]; simp only [if_true]; rw [if_neg h2]
            rw [e]
            exact fix_true_3 s nl nr tl bs bt w hs ht ns nt hz h1 h2

end Go.Proofs.YtdbdcnpajeflkaaDoor.Rope
