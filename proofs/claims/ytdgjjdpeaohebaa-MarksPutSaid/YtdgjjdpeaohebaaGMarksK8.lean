/- Marks: the walk of Put. Conditions: at most 2^40 spans and sites, places and letters at most 2^60. -/
import Derived.Test.YtdgjjdpeaohebaaGMarksK7
namespace Go.Proofs.Ytdgjjdpeaohebaa.Mk
open Go.RowKit Go.Proofs.YtdgjjdpeaohebaaW.PrintWords Go.Proofs.YtdgjjdpeaohebaaW.PrintLast Go.Proofs.YtdgjjdpeaohebaaW.PrintMore Go.Proofs.Ytdgjjdpeaohebaa.PMarksTake Go.Proofs.Ytdgjjdpeaohebaa.Pure
set_option linter.unusedVariables false
set_option linter.unusedSimpArgs false
theorem set_typeM {W : World} {k : Nat} {cs0 : Array Value} {t0 : TypeId} (hk : W.heap[k]? = some (.cells cs0 t0 (0, 0))) {t : TypeId} (ht : t ≠ t0) (j : Nat) (u : Value) : ∀ (g : Nat) (cs : Array Value), W.heap[g]? = some (.cells cs t (0, 0)) → (W.setCell ⟨k, j, none⟩ u).heap[g]? = W.heap[g]? := by
 intro g cs hc
 exact Below.heap_setCell W ⟨k, j, none⟩ u g (blk_ne hc hk ht)
attribute [local go_sem] max2_int min2_int max_two min_two
set_option maxRecDepth 1000000 in
set_option maxHeartbeats 8000000 in
theorem put_calls (A : Option Addr) (c : Nat) (xs : List Sp) (B : Option Addr) (d : Nat) (ys : List SY) (a k m : Int) (w : World) (hr : Kd.C kSp w A xs.length xs) (hc : xs.length ≤ c) (hs : Kd.C kY w B ys.length ys) (hd : ys.length ≤ d) (hl : xs.length ≤ 1099511627776) (hly : ys.length ≤ 1099511627776)
  (ha : -1152921504606846976 ≤ a ∧ a ≤ 1152921504606846976) (hk : -1152921504606846976 ≤ k ∧ k ≤ 1152921504606846976) (hx : ∀ x ∈ xs, (-1152921504606846976 ≤ x.f1 ∧ x.f1 ≤ 1152921504606846976) ∧ -1152921504606846976 ≤ x.f2 ∧ x.f2 ≤ 1152921504606846976) :
  Calls Try.prog 21 #[.agg #[.slice A xs.length c, .slice B ys.length d], .int .i64 a, .int .i64 k, .int .i64 m] w (RetMk (putL a k m xs) (normY (ys.map (mvY (toP a k)))) w) := by
 have HR := Lib.hid hr
 have HS := Lib.hid hs
 have HX := Lib.hid hx
 have HA := Lib.hid ha
 have HK := Lib.hid hk
 clear hr hs hx ha hk
 have w0_ : IntKind.i64.wrap (a + k) = a + k := IntWalk.i64_in _ (by have := HA.out; have := HK.out; omega)
 go_enter Try.func21, Try.ntmps21
 go_upto_region 1 with fail
 obtain ⟨L0, hL0⟩ : ∃ L : List (Nat × Array Value × TypeId), L = [(w.heap.size, #[.slice A xs.length c, .slice B ys.length d], 28), (w.heap.size + 1, #[.int .i64 a], 3), (w.heap.size + 2, #[.int .i64 k], 3), (w.heap.size + 3, #[.slice none 0 0, .slice none 0 0], 28)] := ⟨_, rfl⟩
 refine gen2 (φ := fun W => Code.wp _ _ _ _ W) (P := fun W => KZ w L0 (.slice none 0 0) [] W) ?hP0 ?_
 case hP0 =>
  rw [hL0]
  refine ⟨below_alloc (below_alloc (below_alloc (below_alloc (Below.refl _ _) _) _) _) _, fun z hz => ?_, Kd.R_nil _ _ _ _ _⟩
  have e1 := blk_new w (.cells #[.slice A xs.length c, .slice B ys.length d] 28)
  have e2 := blk_newM (w := w.alloc (.cells #[.slice A xs.length c, .slice B ys.length d] 28)) (o := .cells #[.int .i64 a] 3) (g := w.heap.size + 1) (by simp)
  have e3 := blk_newM (w := (w.alloc (.cells #[.slice A xs.length c, .slice B ys.length d] 28)).alloc (.cells #[.int .i64 a] 3)) (o := .cells #[.int .i64 k] 3) (g := w.heap.size + 2) (by simp)
  have e4 := blk_newM (w := ((w.alloc (.cells #[.slice A xs.length c, .slice B ys.length d] 28)).alloc (.cells #[.int .i64 a] 3)).alloc (.cells #[.int .i64 k] 3)) (o := .cells #[.slice none 0 0, .slice none 0 0] 28) (g := w.heap.size + 3) (by simp)
  simp only [List.mem_cons, List.not_mem_nil, or_false] at hz
  rcases hz with rfl | rfl | rfl | rfl
  ·exact ⟨blk_alloc (blk_alloc (blk_alloc e1 _) _) _, by simp [Value.ownBlock]⟩
  ·exact ⟨blk_alloc (blk_alloc e2 _) _, by simp [Value.ownBlock]⟩
  ·exact ⟨blk_alloc e3 _, by simp [Value.ownBlock]⟩
  ·exact ⟨e4, by simp [Value.ownBlock]⟩
 rintro V0 hV0
 have Z0 := Lib.hid hV0
 have M4 : Hid ((w.heap.size, (#[.slice A xs.length c, .slice B ys.length d] : Array Value), 28) ∈ L0) := Lib.hid (by rw [hL0]; simp)
 have M5 : Hid ((w.heap.size + 1, (#[.int .i64 a] : Array Value), 3) ∈ L0) := Lib.hid (by rw [hL0]; simp)
 have M6 : Hid ((w.heap.size + 2, (#[.int .i64 k] : Array Value), 3) ∈ L0) := Lib.hid (by rw [hL0]; simp)
 have M8 : Hid ((w.heap.size + 3, (#[.slice none 0 0, .slice none 0 0] : Array Value), 28) ∈ L0) := Lib.hid (by rw [hL0]; simp)
 clear hV0 hL0
 have x5 := (blk_cell (Z0.out.blk _ M5.out).1 0).trans rfl
 have x6 := (blk_cell (Z0.out.blk _ M6.out).1 0).trans rfl
 go_upto_region 3 with (first | ((with_reducible refine gate_dst (N := 10) rfl ?_); refine box_event ?hg (N := 10) ?hd (cs := #[.int .i64 0, .int .i64 0, .int .i64 0]) (t := 26) ?hr ?_; (case hd => rfl); (case hg => rfl); (case hr => first | (go_simp; done) | (go_simp; rfl)); intro gA hgA wA hxA hbA; have GA := Lib.hid (show TBm 26 V0 gA #[.int .i64 0, .int .i64 0, .int .i64 0] wA from ⟨hbA, by rw [hgA]; exact Nat.le_refl _, hxA⟩); have q0 := (blk_cell hxA 0).trans rfl; have q1 := (blk_cell hxA 1).trans rfl; have q2 := (blk_cell hxA 2).trans rfl; have z0 := blk_frozen hxA 0; have z1 := blk_frozen hxA 1; have z2 := blk_frozen hxA 2; clear hgA hxA hbA))
 refine gen2 (φ := fun W => Code.wp _ _ _ _ W) (P := fun W => TBm 26 V0 gA #[.int .i64 m, .int .i64 a, .int .i64 (a + k)] W) (((GA.out.set 0 (.int .i64 m)).set 1 (.int .i64 a)).set 2 (.int .i64 (a + k))) ?_
 clear q0 q1 q2 z0 z1 z2 GA x5 x6
 rintro V1 hV1
 have T1 := Lib.hid hV1
 have x5 := (blk_cell ((Z0.out.next hV1.b).blk _ M5.out).1 0).trans rfl
 have u2 := (blk_cell hV1.hx 2).trans rfl
 have f2 := blk_frozen hV1.hx 2
 clear hV1
 obtain ⟨fr, hfr⟩ : ∃ fr, fr = freshS a k m := ⟨_, rfl⟩
 have HF := Lib.hid hfr
 by_cases hm : m ≤ 0
 ·have dm : decide (m ≤ 0) = true := by simpa using hm
  go_upto_region 5 with fail
  refine gen2 (φ := fun W => Code.wp _ _ _ _ W) (P := fun W => TBm 26 V0 gA #[.int .i64 fr.f0, .int .i64 fr.f1, .int .i64 fr.f2] W) (by
   have e : fr = ⟨m, a, a⟩ := by rw [hfr]; unfold freshS; rw [if_pos hm]
   rw [e]
   exact T1.out.set 2 (.int .i64 a)) ?_
  clear x5 u2 f2 T1 dm hm hfr
  rintro V2 hV2
  obtain ⟨L, hL⟩ : ∃ L, L = (gA, (#[.int .i64 fr.f0, .int .i64 fr.f1, .int .i64 fr.f2] : Array Value), 26) :: L0 := ⟨_, rfl⟩
  have Z2 : Hid (KZ w L (.slice none 0 0) [] V2) := Lib.hid (by rw [hL]; exact Z0.out.push hV2.b hV2.lo hV2.hx)
  have N4 : Hid ((w.heap.size, (#[.slice A xs.length c, .slice B ys.length d] : Array Value), 28) ∈ L) := Lib.hid (by rw [hL]; exact List.mem_cons_of_mem _ M4.out)
  have N5 : Hid ((w.heap.size + 1, (#[.int .i64 a] : Array Value), 3) ∈ L) := Lib.hid (by rw [hL]; exact List.mem_cons_of_mem _ M5.out)
  have N6 : Hid ((w.heap.size + 2, (#[.int .i64 k] : Array Value), 3) ∈ L) := Lib.hid (by rw [hL]; exact List.mem_cons_of_mem _ M6.out)
  have N8 : Hid ((w.heap.size + 3, (#[.slice none 0 0, .slice none 0 0] : Array Value), 28) ∈ L) := Lib.hid (by rw [hL]; exact List.mem_cons_of_mem _ M8.out)
  have N10 : Hid ((gA, (#[.int .i64 fr.f0, .int .i64 fr.f1, .int .i64 fr.f2] : Array Value), 26) ∈ L) := Lib.hid (by rw [hL]; exact List.mem_cons_self)
  clear hV2 hL Z0 M4 M5 M6 M8
  have x4 := (blk_cell (Z2.out.blk _ N4.out).1 0).trans rfl
  go_wp2
  clear x4
  go_loopw [27, 9, 11] (fun s27 s9 s11 wr => ∃ (kk : Nat) (v : Value) (o : List Sp) (dn : Bool), kk ≤ xs.length ∧ s27 = .int .i64 (kk : Int) ∧ v = s9 ∧ s11 = .bool dn ∧ Hid (putGo a k m (xs.take kk) [] false = (o, dn)) ∧ Hid (KZ w L v o wr)) (fun s27 _ _ _ => xs.length - cntM s27)
  case atStart => exact ⟨0, _, [], false, Nat.zero_le _, rfl, rfl, rfl, Lib.hid rfl, Z2⟩
  case round =>
   obtain ⟨kk, v, o, dn, hkk, rfl, ev, rfl, PG, ZW⟩ := hrel
   subst ev
   have LO : Hid (o.length ≤ 3 * kk) := Lib.hid (by have h := putGo_len a k m (xs.take kk) [] false; rw [PG.out] at h; simp only [List.length_take, List.length_nil] at h; omega)
   by_cases hlt : kk < xs.length
   ·have d1 : decide ((kk : Int) < (xs.length : Int)) = true := by simp; omega
    have b1 : (0 : Int) ≤ (kk : Int) := by omega
    have b2 : (kk : Int) < (xs.length : Int) := by omega
    have w1_ : IntKind.i64.wrap ((kk : Int) + 1) = (kk : Int) + 1 := IntWalk.i64_in _ (by omega)
    obtain ⟨x, hx⟩ : ∃ x, xs[kk]? = some x := ⟨_, List.getElem?_eq_getElem hlt⟩
    obtain ⟨ad, e0, y0, y1, y2⟩ := at_S (Kd.C_below HR.out ZW.out.b) hx hlt
    subst e0
    have BX := Lib.hid (HX.out x (List.mem_of_getElem? hx))
    have PT := Lib.hid (putGo_take (a := a) (k := k) (m := m) hx)
    rw [PG.out] at PT
    clear hx PG
    go_upto_region 9 with (first | ((with_reducible refine gate_dst (N := 13) rfl ?_); refine box_event ?hg (N := 13) ?hd (cs := #[.int .i64 0, .int .i64 0, .int .i64 0]) (t := 26) ?hr ?_; (case hd => rfl); (case hg => rfl); (case hr => first | (go_simp; done) | (go_simp; rfl)); intro gB hgB wB hxB hbB; have GB := Lib.hid (show TBm 26 wr gB #[.int .i64 0, .int .i64 0, .int .i64 0] wB from ⟨hbB, by rw [hgB]; exact Nat.le_refl _, hxB⟩); have q0 := (blk_cell hxB 0).trans rfl; have q1 := (blk_cell hxB 1).trans rfl; have q2 := (blk_cell hxB 2).trans rfl; have z0 := blk_frozen hxB 0; have z1 := blk_frozen hxB 1; have z2 := blk_frozen hxB 2; clear hgB hxB hbB))
    refine gen2 (φ := fun W => Code.wp _ _ _ _ W) (P := fun W => TBm 26 wr gB #[.int .i64 x.f0, .int .i64 x.f1, .int .i64 x.f2] W) (((GB.out.set 0 (.int .i64 x.f0)).set 1 (.int .i64 x.f1)).set 2 (.int .i64 x.f2)) ?_
    clear q0 q1 q2 z0 z1 z2 GB y0 y1 y2
    rintro V3 hV3
    obtain ⟨L2, hL2⟩ : ∃ L2, L2 = (gB, (#[.int .i64 x.f0, .int .i64 x.f1, .int .i64 x.f2] : Array Value), 26) :: L := ⟨_, rfl⟩
    have Z3 : Hid (KZ w L2 v o V3) := Lib.hid (by rw [hL2]; exact ZW.out.push hV3.b hV3.lo hV3.hx)
    have IN : Hid (∀ z ∈ L, z ∈ L2) := Lib.hid (fun z hz => by rw [hL2]; exact List.mem_cons_of_mem _ hz)
    have I0 : Hid ((gB, (#[.int .i64 x.f0, .int .i64 x.f1, .int .i64 x.f2] : Array Value), 26) ∈ L2) := Lib.hid (by rw [hL2]; exact List.mem_cons_self)
    have BK : Hid (∀ (v' : Value) (o' : List Sp) (W : World), KZ w L2 v' o' W → KZ w L v' o' W) := Lib.hid (fun v' o' W h => by rw [hL2] at h; exact h.tail)
    clear hV3 hL2 ZW
    have x5 := (blk_cell (Z3.out.blk _ (IN.out _ N5.out)).1 0).trans rfl
    have y0 := (blk_cell (Z3.out.blk _ I0.out).1 0).trans rfl
    have y1 := (blk_cell (Z3.out.blk _ I0.out).1 1).trans rfl
    have y2 := (blk_cell (Z3.out.blk _ I0.out).1 2).trans rfl
    obtain ⟨mn, hmn⟩ : ∃ mn, mn = min x.f2 a := ⟨_, rfl⟩
    have eM : (if a < x.f2 then a else x.f2) = mn := by rw [hmn]; split <;> omega
    have HMN := Lib.hid hmn
    clear hmn
    go_wp2_with fail
    (go_at_call 32; refine (add_calls v o ⟨x.f0, x.f1, mn⟩ w _ Z3.out.b Z3.out.row (by have := LO.out; omega)).mono ?_; rintro e w5 ha5)
    obtain ⟨v5, rfl, z5⟩ := Z3.out.add ha5
    have E5 := Lib.hid (show addL o ⟨x.f0, x.f1, mn⟩ = addA a o x by rw [HMN.out]; rfl)
    rw [E5.out] at z5
    have Z5 := Lib.hid z5
    have LA : Hid ((addA a o x).length ≤ 3 * kk + 1) := Lib.hid (by have := addL_length o ⟨x.f0, x.f1, min x.f2 a⟩; have := LO.out; unfold addA; omega)
    clear ha5 z5 Z3 x5 y0 y1 y2 eM HMN E5
    have x5 := (blk_cell (Z5.out.blk _ (IN.out _ N5.out)).1 0).trans rfl
    have y2 := (blk_cell (Z5.out.blk _ I0.out).1 2).trans rfl
    by_cases hgt : x.f2 > a
    ·have dg : decide (a < x.f2) = true := by simpa using hgt
     obtain ⟨mx_, hmx⟩ : ∃ z, z = max x.f1 a := ⟨_, rfl⟩
     have eX : (if x.f1 < a then a else x.f1) = mx_ := by rw [hmx]; split <;> omega
     have w2_ : IntKind.i64.wrap (mx_ + k) = mx_ + k := IntWalk.i64_in _ (by have := BX.out; have := HK.out; have := HA.out; omega)
     have w3_ : IntKind.i64.wrap (x.f2 + k) = x.f2 + k := IntWalk.i64_in _ (by have := BX.out; have := HK.out; omega)
     have HMX := Lib.hid hmx
     have HGT := Lib.hid hgt
     clear hmx hgt
     cases dn with
     | true =>
      have ES := Lib.hid (show putStep a k m o true x = (addB a k (addA a o x) x, true) by unfold putStep; rw [if_pos HGT.out]; rfl)
      have Z6 := Z5
      have LB : Hid ((addA a o x).length ≤ 3 * kk + 2) := Lib.hid (by have := LA.out; omega)
      clear x5 y2 Z5 LA
      have x5 := (blk_cell (Z6.out.blk _ (IN.out _ N5.out)).1 0).trans rfl
      have x6 := (blk_cell (Z6.out.blk _ (IN.out _ N6.out)).1 0).trans rfl
      have y0 := (blk_cell (Z6.out.blk _ I0.out).1 0).trans rfl
      have y1 := (blk_cell (Z6.out.blk _ I0.out).1 1).trans rfl
      have y2 := (blk_cell (Z6.out.blk _ I0.out).1 2).trans rfl
      go_wp2_with fail
      (go_at_call 32; refine (add_calls _ _ ⟨x.f0, mx_ + k, x.f2 + k⟩ w _ Z6.out.b Z6.out.row (by have := LB.out; omega)).mono ?_; rintro e w7 ha7)
      obtain ⟨v7, rfl, z7⟩ := Z6.out.add ha7
      have Z7 := Lib.hid (BK.out _ _ _ z7)
      clear x5 x6 y0 y1 y2 ha7 z7 Z6 eX w2_ w3_
      go_wp2
      go_roundw
      case rel => exact ⟨kk + 1, _, _, true, by omega, by go_num, rfl, rfl, Lib.hid (by rw [PT.out, ES.out]; unfold addB; rw [← HMX.out]), Z7⟩
      case measure =>
       simp only [cntM]
       omega
     | false =>
      have ES := Lib.hid (show putStep a k m o false x = (addB a k (addL (addA a o x) fr) x, true) by unfold putStep; rw [if_pos HGT.out, HF.out]; rfl)
      have f0 := (blk_cell (Z5.out.blk _ (IN.out _ N10.out)).1 0).trans rfl
      have f1 := (blk_cell (Z5.out.blk _ (IN.out _ N10.out)).1 1).trans rfl
      have f2 := (blk_cell (Z5.out.blk _ (IN.out _ N10.out)).1 2).trans rfl
      go_wp2_with fail
      (go_at_call 32; refine (add_calls v5 (addA a o x) fr w _ Z5.out.b Z5.out.row (by have := LA.out; omega)).mono ?_; rintro e w6 ha6)
      obtain ⟨v6, rfl, z6⟩ := Z5.out.add ha6
      have Z6 := Lib.hid z6
      have LB : Hid ((addL (addA a o x) fr).length ≤ 3 * kk + 2) := Lib.hid (by have := addL_length (addA a o x) fr; have := LA.out; omega)
      clear x5 y2 Z5 LA f0 f1 f2 z6 ha6
      have x5 := (blk_cell (Z6.out.blk _ (IN.out _ N5.out)).1 0).trans rfl
      have x6 := (blk_cell (Z6.out.blk _ (IN.out _ N6.out)).1 0).trans rfl
      have y0 := (blk_cell (Z6.out.blk _ I0.out).1 0).trans rfl
      have y1 := (blk_cell (Z6.out.blk _ I0.out).1 1).trans rfl
      have y2 := (blk_cell (Z6.out.blk _ I0.out).1 2).trans rfl
      go_wp2_with fail
      (go_at_call 32; refine (add_calls _ _ ⟨x.f0, mx_ + k, x.f2 + k⟩ w _ Z6.out.b Z6.out.row (by have := LB.out; omega)).mono ?_; rintro e w7 ha7)
      obtain ⟨v7, rfl, z7⟩ := Z6.out.add ha7
      have Z7 := Lib.hid (BK.out _ _ _ z7)
      clear x5 x6 y0 y1 y2 ha7 z7 Z6 eX w2_ w3_
      go_wp2
      go_roundw
      case rel => exact ⟨kk + 1, _, _, true, by omega, by go_num, rfl, rfl, Lib.hid (by rw [PT.out, ES.out]; unfold addB; rw [← HMX.out]), Z7⟩
      case measure =>
       simp only [cntM]
       omega
    ·have dg : decide (a < x.f2) = false := by simpa using hgt
     have ES := Lib.hid (show putStep a k m o dn x = (addA a o x, dn) by unfold putStep; rw [if_neg hgt])
     have ZB := Lib.hid (BK.out _ _ _ Z5.out)
     clear hgt
     go_wp2
     go_roundw
     case rel => exact ⟨kk + 1, _, _, dn, by omega, by go_num, rfl, rfl, by rw [PT.out, ES.out] <;> exact Lib.hid rfl, ZB⟩
     case measure =>
      simp only [cntM]
      omega
   ·have d1 : decide ((kk : Int) < (xs.length : Int)) = false := by simp; omega
    obtain rfl : kk = xs.length := by omega
    rw [List.take_length] at PG
    cases dn with
    | true =>
     have EP := Lib.hid (show putL a k m xs = o by unfold putL; rw [PG.out]; rfl)
     have Z7 := ZW
     clear ZW PG
     have x4 := (blk_cell (Z7.out.blk _ N4.out).1 1).trans rfl
     have x5 := (blk_cell (Z7.out.blk _ N5.out).1 0).trans rfl
     have x6 := (blk_cell (Z7.out.blk _ N6.out).1 0).trans rfl
     go_wp2_with fail
     (go_at_call 36; refine (moved_calls B d ys 37 #[.pointer (some ⟨w.heap.size + 1, 0, none⟩), .pointer (some ⟨w.heap.size + 2, 0, none⟩)] (toP a k) _ eg_put1 (fun W p hb => put1_calls a k p _ _ W (pw_cell_below hb x5) (pw_cell_below hb x6)) (Kd.C_below HS.out Z7.out.b) hd hly).mono ?_; rintro e w8 ⟨v8, rfl, hr8, hb8⟩)
     have Z8 := Lib.hid (Z7.out.next hb8)
     have R8 := Lib.hid (Kd.R_lower hr8 Z7.out.b.size)
     obtain ⟨A9, c9, e9⟩ := Kd.R_slice Z8.out.row
     subst e9
     obtain ⟨B9, d9, e9⟩ := Kd.R_slice R8.out
     subst e9
     have r0 := (blk_cell (Z8.out.blk _ N8.out).1 0).trans rfl
     have r1 := (blk_cell (Z8.out.blk _ N8.out).1 1).trans rfl
     have z0 := blk_frozen (Z8.out.blk _ N8.out).1 0
     have z1 := blk_frozen (Z8.out.blk _ N8.out).1 1
     clear x4 x5 x6 hr8 hb8 Z7
     go_wp2
     have HB8 : w8.heap[w.heap.size + 3]? = some (.cells #[.slice none 0 0, .slice none 0 0] 28 (0, 0)) := (Z8.out.blk _ N8.out).1
     refine bodyPost_ret (results_cell_row rfl _ _ (w.heap.size + 3) 28 #[.slice A9 (o).length c9, .slice B9 (normY (ys.map (mvY (toP a k)))).length d9] (0, 0) _ rfl (by simpa using blk_set (blk_set HB8 0 (.slice A9 (o).length c9)) 1 (.slice B9 (normY (ys.map (mvY (toP a k)))).length d9)) Try.underlying28 rfl (by kernel_rfl)) rfl ?_
     rw [EP.out]
     exact ⟨A9, c9, B9, d9, rfl, R_moveT rfl (R_moveT rfl Z8.out.row (set_typeM HB8 (by decide) 0 _)) (set_typeM (blk_set HB8 0 _) (by decide) 1 _), R_moveT rfl (R_moveT rfl R8.out (set_typeM HB8 (by decide) 0 _)) (set_typeM (blk_set HB8 0 _) (by decide) 1 _), below_set (below_set Z8.out.b (by omega)) (by omega)⟩
    | false =>
     have EP := Lib.hid (show putL a k m xs = addL o fr by unfold putL; rw [PG.out, HF.out]; rfl)
     have f0 := (blk_cell (ZW.out.blk _ N10.out).1 0).trans rfl
     have f1 := (blk_cell (ZW.out.blk _ N10.out).1 1).trans rfl
     have f2 := (blk_cell (ZW.out.blk _ N10.out).1 2).trans rfl
     go_wp2_with fail
     (go_at_call 32; refine (add_calls _ o fr w _ ZW.out.b ZW.out.row (by have := LO.out; omega)).mono ?_; rintro e w6 ha6)
     obtain ⟨v7, rfl, z7⟩ := ZW.out.add ha6
     have Z7 := Lib.hid z7
     clear f0 f1 f2 z7 ha6 ZW PG
     have x4 := (blk_cell (Z7.out.blk _ N4.out).1 1).trans rfl
     have x5 := (blk_cell (Z7.out.blk _ N5.out).1 0).trans rfl
     have x6 := (blk_cell (Z7.out.blk _ N6.out).1 0).trans rfl
     go_wp2_with fail
     (go_at_call 36; refine (moved_calls B d ys 37 #[.pointer (some ⟨w.heap.size + 1, 0, none⟩), .pointer (some ⟨w.heap.size + 2, 0, none⟩)] (toP a k) _ eg_put1 (fun W p hb => put1_calls a k p _ _ W (pw_cell_below hb x5) (pw_cell_below hb x6)) (Kd.C_below HS.out Z7.out.b) hd hly).mono ?_; rintro e w8 ⟨v8, rfl, hr8, hb8⟩)
     have Z8 := Lib.hid (Z7.out.next hb8)
     have R8 := Lib.hid (Kd.R_lower hr8 Z7.out.b.size)
     obtain ⟨A9, c9, e9⟩ := Kd.R_slice Z8.out.row
     subst e9
     obtain ⟨B9, d9, e9⟩ := Kd.R_slice R8.out
     subst e9
     have r0 := (blk_cell (Z8.out.blk _ N8.out).1 0).trans rfl
     have r1 := (blk_cell (Z8.out.blk _ N8.out).1 1).trans rfl
     have z0 := blk_frozen (Z8.out.blk _ N8.out).1 0
     have z1 := blk_frozen (Z8.out.blk _ N8.out).1 1
     clear x4 x5 x6 hr8 hb8 Z7
     go_wp2
     have HB8 : w8.heap[w.heap.size + 3]? = some (.cells #[.slice none 0 0, .slice none 0 0] 28 (0, 0)) := (Z8.out.blk _ N8.out).1
     refine bodyPost_ret (results_cell_row rfl _ _ (w.heap.size + 3) 28 #[.slice A9 (addL o fr).length c9, .slice B9 (normY (ys.map (mvY (toP a k)))).length d9] (0, 0) _ rfl (by simpa using blk_set (blk_set HB8 0 (.slice A9 (addL o fr).length c9)) 1 (.slice B9 (normY (ys.map (mvY (toP a k)))).length d9)) Try.underlying28 rfl (by kernel_rfl)) rfl ?_
     rw [EP.out]
     exact ⟨A9, c9, B9, d9, rfl, R_moveT rfl (R_moveT rfl Z8.out.row (set_typeM HB8 (by decide) 0 _)) (set_typeM (blk_set HB8 0 _) (by decide) 1 _), R_moveT rfl (R_moveT rfl R8.out (set_typeM HB8 (by decide) 0 _)) (set_typeM (blk_set HB8 0 _) (by decide) 1 _), below_set (below_set Z8.out.b (by omega)) (by omega)⟩
 ·have dm : decide (m ≤ 0) = false := by simpa using hm
  go_upto_region 5 with fail
  refine gen2 (φ := fun W => Code.wp _ _ _ _ W) (P := fun W => TBm 26 V0 gA #[.int .i64 fr.f0, .int .i64 fr.f1, .int .i64 fr.f2] W) (by
   have e : fr = ⟨m, a, a + k⟩ := by rw [hfr]; unfold freshS; rw [if_neg hm]
   rw [e]
   exact T1.out) ?_
  clear x5 u2 f2 T1 dm hm hfr
  rintro V2 hV2
  obtain ⟨L, hL⟩ : ∃ L, L = (gA, (#[.int .i64 fr.f0, .int .i64 fr.f1, .int .i64 fr.f2] : Array Value), 26) :: L0 := ⟨_, rfl⟩
  have Z2 : Hid (KZ w L (.slice none 0 0) [] V2) := Lib.hid (by rw [hL]; exact Z0.out.push hV2.b hV2.lo hV2.hx)
  have N4 : Hid ((w.heap.size, (#[.slice A xs.length c, .slice B ys.length d] : Array Value), 28) ∈ L) := Lib.hid (by rw [hL]; exact List.mem_cons_of_mem _ M4.out)
  have N5 : Hid ((w.heap.size + 1, (#[.int .i64 a] : Array Value), 3) ∈ L) := Lib.hid (by rw [hL]; exact List.mem_cons_of_mem _ M5.out)
  have N6 : Hid ((w.heap.size + 2, (#[.int .i64 k] : Array Value), 3) ∈ L) := Lib.hid (by rw [hL]; exact List.mem_cons_of_mem _ M6.out)
  have N8 : Hid ((w.heap.size + 3, (#[.slice none 0 0, .slice none 0 0] : Array Value), 28) ∈ L) := Lib.hid (by rw [hL]; exact List.mem_cons_of_mem _ M8.out)
  have N10 : Hid ((gA, (#[.int .i64 fr.f0, .int .i64 fr.f1, .int .i64 fr.f2] : Array Value), 26) ∈ L) := Lib.hid (by rw [hL]; exact List.mem_cons_self)
  clear hV2 hL Z0 M4 M5 M6 M8
  have x4 := (blk_cell (Z2.out.blk _ N4.out).1 0).trans rfl
  go_wp2
  clear x4
  go_loopw [27, 9, 11] (fun s27 s9 s11 wr => ∃ (kk : Nat) (v : Value) (o : List Sp) (dn : Bool), kk ≤ xs.length ∧ s27 = .int .i64 (kk : Int) ∧ v = s9 ∧ s11 = .bool dn ∧ Hid (putGo a k m (xs.take kk) [] false = (o, dn)) ∧ Hid (KZ w L v o wr)) (fun s27 _ _ _ => xs.length - cntM s27)
  case atStart => exact ⟨0, _, [], false, Nat.zero_le _, rfl, rfl, rfl, Lib.hid rfl, Z2⟩
  case round =>
   obtain ⟨kk, v, o, dn, hkk, rfl, ev, rfl, PG, ZW⟩ := hrel
   subst ev
   have LO : Hid (o.length ≤ 3 * kk) := Lib.hid (by have h := putGo_len a k m (xs.take kk) [] false; rw [PG.out] at h; simp only [List.length_take, List.length_nil] at h; omega)
   by_cases hlt : kk < xs.length
   ·have d1 : decide ((kk : Int) < (xs.length : Int)) = true := by simp; omega
    have b1 : (0 : Int) ≤ (kk : Int) := by omega
    have b2 : (kk : Int) < (xs.length : Int) := by omega
    have w1_ : IntKind.i64.wrap ((kk : Int) + 1) = (kk : Int) + 1 := IntWalk.i64_in _ (by omega)
    obtain ⟨x, hx⟩ : ∃ x, xs[kk]? = some x := ⟨_, List.getElem?_eq_getElem hlt⟩
    obtain ⟨ad, e0, y0, y1, y2⟩ := at_S (Kd.C_below HR.out ZW.out.b) hx hlt
    subst e0
    have BX := Lib.hid (HX.out x (List.mem_of_getElem? hx))
    have PT := Lib.hid (putGo_take (a := a) (k := k) (m := m) hx)
    rw [PG.out] at PT
    clear hx PG
    go_upto_region 9 with (first | ((with_reducible refine gate_dst (N := 13) rfl ?_); refine box_event ?hg (N := 13) ?hd (cs := #[.int .i64 0, .int .i64 0, .int .i64 0]) (t := 26) ?hr ?_; (case hd => rfl); (case hg => rfl); (case hr => first | (go_simp; done) | (go_simp; rfl)); intro gB hgB wB hxB hbB; have GB := Lib.hid (show TBm 26 wr gB #[.int .i64 0, .int .i64 0, .int .i64 0] wB from ⟨hbB, by rw [hgB]; exact Nat.le_refl _, hxB⟩); have q0 := (blk_cell hxB 0).trans rfl; have q1 := (blk_cell hxB 1).trans rfl; have q2 := (blk_cell hxB 2).trans rfl; have z0 := blk_frozen hxB 0; have z1 := blk_frozen hxB 1; have z2 := blk_frozen hxB 2; clear hgB hxB hbB))
    refine gen2 (φ := fun W => Code.wp _ _ _ _ W) (P := fun W => TBm 26 wr gB #[.int .i64 x.f0, .int .i64 x.f1, .int .i64 x.f2] W) (((GB.out.set 0 (.int .i64 x.f0)).set 1 (.int .i64 x.f1)).set 2 (.int .i64 x.f2)) ?_
    clear q0 q1 q2 z0 z1 z2 GB y0 y1 y2
    rintro V3 hV3
    obtain ⟨L2, hL2⟩ : ∃ L2, L2 = (gB, (#[.int .i64 x.f0, .int .i64 x.f1, .int .i64 x.f2] : Array Value), 26) :: L := ⟨_, rfl⟩
    have Z3 : Hid (KZ w L2 v o V3) := Lib.hid (by rw [hL2]; exact ZW.out.push hV3.b hV3.lo hV3.hx)
    have IN : Hid (∀ z ∈ L, z ∈ L2) := Lib.hid (fun z hz => by rw [hL2]; exact List.mem_cons_of_mem _ hz)
    have I0 : Hid ((gB, (#[.int .i64 x.f0, .int .i64 x.f1, .int .i64 x.f2] : Array Value), 26) ∈ L2) := Lib.hid (by rw [hL2]; exact List.mem_cons_self)
    have BK : Hid (∀ (v' : Value) (o' : List Sp) (W : World), KZ w L2 v' o' W → KZ w L v' o' W) := Lib.hid (fun v' o' W h => by rw [hL2] at h; exact h.tail)
    clear hV3 hL2 ZW
    have x5 := (blk_cell (Z3.out.blk _ (IN.out _ N5.out)).1 0).trans rfl
    have y0 := (blk_cell (Z3.out.blk _ I0.out).1 0).trans rfl
    have y1 := (blk_cell (Z3.out.blk _ I0.out).1 1).trans rfl
    have y2 := (blk_cell (Z3.out.blk _ I0.out).1 2).trans rfl
    obtain ⟨mn, hmn⟩ : ∃ mn, mn = min x.f2 a := ⟨_, rfl⟩
    have eM : (if a < x.f2 then a else x.f2) = mn := by rw [hmn]; split <;> omega
    have HMN := Lib.hid hmn
    clear hmn
    go_wp2_with fail
    (go_at_call 32; refine (add_calls v o ⟨x.f0, x.f1, mn⟩ w _ Z3.out.b Z3.out.row (by have := LO.out; omega)).mono ?_; rintro e w5 ha5)
    obtain ⟨v5, rfl, z5⟩ := Z3.out.add ha5
    have E5 := Lib.hid (show addL o ⟨x.f0, x.f1, mn⟩ = addA a o x by rw [HMN.out]; rfl)
    rw [E5.out] at z5
    have Z5 := Lib.hid z5
    have LA : Hid ((addA a o x).length ≤ 3 * kk + 1) := Lib.hid (by have := addL_length o ⟨x.f0, x.f1, min x.f2 a⟩; have := LO.out; unfold addA; omega)
    clear ha5 z5 Z3 x5 y0 y1 y2 eM HMN E5
    have x5 := (blk_cell (Z5.out.blk _ (IN.out _ N5.out)).1 0).trans rfl
    have y2 := (blk_cell (Z5.out.blk _ I0.out).1 2).trans rfl
    by_cases hgt : x.f2 > a
    ·have dg : decide (a < x.f2) = true := by simpa using hgt
     obtain ⟨mx_, hmx⟩ : ∃ z, z = max x.f1 a := ⟨_, rfl⟩
     have eX : (if x.f1 < a then a else x.f1) = mx_ := by rw [hmx]; split <;> omega
     have w2_ : IntKind.i64.wrap (mx_ + k) = mx_ + k := IntWalk.i64_in _ (by have := BX.out; have := HK.out; have := HA.out; omega)
     have w3_ : IntKind.i64.wrap (x.f2 + k) = x.f2 + k := IntWalk.i64_in _ (by have := BX.out; have := HK.out; omega)
     have HMX := Lib.hid hmx
     have HGT := Lib.hid hgt
     clear hmx hgt
     cases dn with
     | true =>
      have ES := Lib.hid (show putStep a k m o true x = (addB a k (addA a o x) x, true) by unfold putStep; rw [if_pos HGT.out]; rfl)
      have Z6 := Z5
      have LB : Hid ((addA a o x).length ≤ 3 * kk + 2) := Lib.hid (by have := LA.out; omega)
      clear x5 y2 Z5 LA
      have x5 := (blk_cell (Z6.out.blk _ (IN.out _ N5.out)).1 0).trans rfl
      have x6 := (blk_cell (Z6.out.blk _ (IN.out _ N6.out)).1 0).trans rfl
      have y0 := (blk_cell (Z6.out.blk _ I0.out).1 0).trans rfl
      have y1 := (blk_cell (Z6.out.blk _ I0.out).1 1).trans rfl
      have y2 := (blk_cell (Z6.out.blk _ I0.out).1 2).trans rfl
      go_wp2_with fail
      (go_at_call 32; refine (add_calls _ _ ⟨x.f0, mx_ + k, x.f2 + k⟩ w _ Z6.out.b Z6.out.row (by have := LB.out; omega)).mono ?_; rintro e w7 ha7)
      obtain ⟨v7, rfl, z7⟩ := Z6.out.add ha7
      have Z7 := Lib.hid (BK.out _ _ _ z7)
      clear x5 x6 y0 y1 y2 ha7 z7 Z6 eX w2_ w3_
      go_wp2
      go_roundw
      case rel => exact ⟨kk + 1, _, _, true, by omega, by go_num, rfl, rfl, Lib.hid (by rw [PT.out, ES.out]; unfold addB; rw [← HMX.out]), Z7⟩
      case measure =>
       simp only [cntM]
       omega
     | false =>
      have ES := Lib.hid (show putStep a k m o false x = (addB a k (addL (addA a o x) fr) x, true) by unfold putStep; rw [if_pos HGT.out, HF.out]; rfl)
      have f0 := (blk_cell (Z5.out.blk _ (IN.out _ N10.out)).1 0).trans rfl
      have f1 := (blk_cell (Z5.out.blk _ (IN.out _ N10.out)).1 1).trans rfl
      have f2 := (blk_cell (Z5.out.blk _ (IN.out _ N10.out)).1 2).trans rfl
      go_wp2_with fail
      (go_at_call 32; refine (add_calls v5 (addA a o x) fr w _ Z5.out.b Z5.out.row (by have := LA.out; omega)).mono ?_; rintro e w6 ha6)
      obtain ⟨v6, rfl, z6⟩ := Z5.out.add ha6
      have Z6 := Lib.hid z6
      have LB : Hid ((addL (addA a o x) fr).length ≤ 3 * kk + 2) := Lib.hid (by have := addL_length (addA a o x) fr; have := LA.out; omega)
      clear x5 y2 Z5 LA f0 f1 f2 z6 ha6
      have x5 := (blk_cell (Z6.out.blk _ (IN.out _ N5.out)).1 0).trans rfl
      have x6 := (blk_cell (Z6.out.blk _ (IN.out _ N6.out)).1 0).trans rfl
      have y0 := (blk_cell (Z6.out.blk _ I0.out).1 0).trans rfl
      have y1 := (blk_cell (Z6.out.blk _ I0.out).1 1).trans rfl
      have y2 := (blk_cell (Z6.out.blk _ I0.out).1 2).trans rfl
      go_wp2_with fail
      (go_at_call 32; refine (add_calls _ _ ⟨x.f0, mx_ + k, x.f2 + k⟩ w _ Z6.out.b Z6.out.row (by have := LB.out; omega)).mono ?_; rintro e w7 ha7)
      obtain ⟨v7, rfl, z7⟩ := Z6.out.add ha7
      have Z7 := Lib.hid (BK.out _ _ _ z7)
      clear x5 x6 y0 y1 y2 ha7 z7 Z6 eX w2_ w3_
      go_wp2
      go_roundw
      case rel => exact ⟨kk + 1, _, _, true, by omega, by go_num, rfl, rfl, Lib.hid (by rw [PT.out, ES.out]; unfold addB; rw [← HMX.out]), Z7⟩
      case measure =>
       simp only [cntM]
       omega
    ·have dg : decide (a < x.f2) = false := by simpa using hgt
     have ES := Lib.hid (show putStep a k m o dn x = (addA a o x, dn) by unfold putStep; rw [if_neg hgt])
     have ZB := Lib.hid (BK.out _ _ _ Z5.out)
     clear hgt
     go_wp2
     go_roundw
     case rel => exact ⟨kk + 1, _, _, dn, by omega, by go_num, rfl, rfl, by rw [PT.out, ES.out] <;> exact Lib.hid rfl, ZB⟩
     case measure =>
      simp only [cntM]
      omega
   ·have d1 : decide ((kk : Int) < (xs.length : Int)) = false := by simp; omega
    obtain rfl : kk = xs.length := by omega
    rw [List.take_length] at PG
    cases dn with
    | true =>
     have EP := Lib.hid (show putL a k m xs = o by unfold putL; rw [PG.out]; rfl)
     have Z7 := ZW
     clear ZW PG
     have x4 := (blk_cell (Z7.out.blk _ N4.out).1 1).trans rfl
     have x5 := (blk_cell (Z7.out.blk _ N5.out).1 0).trans rfl
     have x6 := (blk_cell (Z7.out.blk _ N6.out).1 0).trans rfl
     go_wp2_with fail
     (go_at_call 36; refine (moved_calls B d ys 37 #[.pointer (some ⟨w.heap.size + 1, 0, none⟩), .pointer (some ⟨w.heap.size + 2, 0, none⟩)] (toP a k) _ eg_put1 (fun W p hb => put1_calls a k p _ _ W (pw_cell_below hb x5) (pw_cell_below hb x6)) (Kd.C_below HS.out Z7.out.b) hd hly).mono ?_; rintro e w8 ⟨v8, rfl, hr8, hb8⟩)
     have Z8 := Lib.hid (Z7.out.next hb8)
     have R8 := Lib.hid (Kd.R_lower hr8 Z7.out.b.size)
     obtain ⟨A9, c9, e9⟩ := Kd.R_slice Z8.out.row
     subst e9
     obtain ⟨B9, d9, e9⟩ := Kd.R_slice R8.out
     subst e9
     have r0 := (blk_cell (Z8.out.blk _ N8.out).1 0).trans rfl
     have r1 := (blk_cell (Z8.out.blk _ N8.out).1 1).trans rfl
     have z0 := blk_frozen (Z8.out.blk _ N8.out).1 0
     have z1 := blk_frozen (Z8.out.blk _ N8.out).1 1
     clear x4 x5 x6 hr8 hb8 Z7
     go_wp2
     have HB8 : w8.heap[w.heap.size + 3]? = some (.cells #[.slice none 0 0, .slice none 0 0] 28 (0, 0)) := (Z8.out.blk _ N8.out).1
     refine bodyPost_ret (results_cell_row rfl _ _ (w.heap.size + 3) 28 #[.slice A9 (o).length c9, .slice B9 (normY (ys.map (mvY (toP a k)))).length d9] (0, 0) _ rfl (by simpa using blk_set (blk_set HB8 0 (.slice A9 (o).length c9)) 1 (.slice B9 (normY (ys.map (mvY (toP a k)))).length d9)) Try.underlying28 rfl (by kernel_rfl)) rfl ?_
     rw [EP.out]
     exact ⟨A9, c9, B9, d9, rfl, R_moveT rfl (R_moveT rfl Z8.out.row (set_typeM HB8 (by decide) 0 _)) (set_typeM (blk_set HB8 0 _) (by decide) 1 _), R_moveT rfl (R_moveT rfl R8.out (set_typeM HB8 (by decide) 0 _)) (set_typeM (blk_set HB8 0 _) (by decide) 1 _), below_set (below_set Z8.out.b (by omega)) (by omega)⟩
    | false =>
     have EP := Lib.hid (show putL a k m xs = addL o fr by unfold putL; rw [PG.out, HF.out]; rfl)
     have f0 := (blk_cell (ZW.out.blk _ N10.out).1 0).trans rfl
     have f1 := (blk_cell (ZW.out.blk _ N10.out).1 1).trans rfl
     have f2 := (blk_cell (ZW.out.blk _ N10.out).1 2).trans rfl
     go_wp2_with fail
     (go_at_call 32; refine (add_calls _ o fr w _ ZW.out.b ZW.out.row (by have := LO.out; omega)).mono ?_; rintro e w6 ha6)
     obtain ⟨v7, rfl, z7⟩ := ZW.out.add ha6
     have Z7 := Lib.hid z7
     clear f0 f1 f2 z7 ha6 ZW PG
     have x4 := (blk_cell (Z7.out.blk _ N4.out).1 1).trans rfl
     have x5 := (blk_cell (Z7.out.blk _ N5.out).1 0).trans rfl
     have x6 := (blk_cell (Z7.out.blk _ N6.out).1 0).trans rfl
     go_wp2_with fail
     (go_at_call 36; refine (moved_calls B d ys 37 #[.pointer (some ⟨w.heap.size + 1, 0, none⟩), .pointer (some ⟨w.heap.size + 2, 0, none⟩)] (toP a k) _ eg_put1 (fun W p hb => put1_calls a k p _ _ W (pw_cell_below hb x5) (pw_cell_below hb x6)) (Kd.C_below HS.out Z7.out.b) hd hly).mono ?_; rintro e w8 ⟨v8, rfl, hr8, hb8⟩)
     have Z8 := Lib.hid (Z7.out.next hb8)
     have R8 := Lib.hid (Kd.R_lower hr8 Z7.out.b.size)
     obtain ⟨A9, c9, e9⟩ := Kd.R_slice Z8.out.row
     subst e9
     obtain ⟨B9, d9, e9⟩ := Kd.R_slice R8.out
     subst e9
     have r0 := (blk_cell (Z8.out.blk _ N8.out).1 0).trans rfl
     have r1 := (blk_cell (Z8.out.blk _ N8.out).1 1).trans rfl
     have z0 := blk_frozen (Z8.out.blk _ N8.out).1 0
     have z1 := blk_frozen (Z8.out.blk _ N8.out).1 1
     clear x4 x5 x6 hr8 hb8 Z7
     go_wp2
     have HB8 : w8.heap[w.heap.size + 3]? = some (.cells #[.slice none 0 0, .slice none 0 0] 28 (0, 0)) := (Z8.out.blk _ N8.out).1
     refine bodyPost_ret (results_cell_row rfl _ _ (w.heap.size + 3) 28 #[.slice A9 (addL o fr).length c9, .slice B9 (normY (ys.map (mvY (toP a k)))).length d9] (0, 0) _ rfl (by simpa using blk_set (blk_set HB8 0 (.slice A9 (addL o fr).length c9)) 1 (.slice B9 (normY (ys.map (mvY (toP a k)))).length d9)) Try.underlying28 rfl (by kernel_rfl)) rfl ?_
     rw [EP.out]
     exact ⟨A9, c9, B9, d9, rfl, R_moveT rfl (R_moveT rfl Z8.out.row (set_typeM HB8 (by decide) 0 _)) (set_typeM (blk_set HB8 0 _) (by decide) 1 _), R_moveT rfl (R_moveT rfl R8.out (set_typeM HB8 (by decide) 0 _)) (set_typeM (blk_set HB8 0 _) (by decide) 1 _), below_set (below_set Z8.out.b (by omega)) (by omega)⟩
end Go.Proofs.Ytdgjjdpeaohebaa.Mk
