/- Marks: the walk of the reference's Put. Conditions: right marks of a text of at most 2^40 letters. -/
import Derived.Test.YtdgjjdpeaohebaaGMarksK8
namespace Go.Proofs.Ytdgjjdpeaohebaa.Mk
open Go.RowKit Go.Proofs.YtdgjjdpeaohebaaW.PrintWords Go.Proofs.YtdgjjdpeaohebaaW.PrintLast Go.Proofs.YtdgjjdpeaohebaaW.PrintMore Go.Proofs.Ytdgjjdpeaohebaa.PMarksTake Go.Proofs.Ytdgjjdpeaohebaa.Pure
set_option linter.unusedVariables false
set_option linter.unusedSimpArgs false
attribute [local go_sem] max2_int min2_int max_two min_two
def RetSi (v : Value) (o : List SY) (base : Nat) (w : World) (e : Ending) (w' : World) : Prop := ∃ v', e = .returned v' ∧ Kd.R kY 38 w' base (fun _ => True) v' o ∧ w.grownBy w' v.ownBlock
theorem site_calls (v : Value) (o : List SY) (s : SY) (w0 w : World) (hB : Below w0.heap.size w0 w) (h : Kd.R kY 38 w w0.heap.size (fun _ => True) v o) (hl : o.length < 8796093022208) :
  Calls Try.prog 35 #[v, .agg #[.int .i64 s.f0, .int .i64 s.f1]] w (RetSi v (siteL o s) w0.heap.size w) := by
 have h1 : Kd.R kY 38 w w0.heap.size (fun k => some k = v.ownBlock) v o := ⟨fun k hk => hk.symm, h.2.imp_ (fun x c hM => by rw [k38_openM hM]; exact k38_mkM _ _ _ _)⟩
 obtain ⟨k, hk⟩ := Go.Proofs.YtdgjjdpeaohebaaW.PrintWords.Ev.rounds (ref_site_ev o s hl)
 refine (chancelref04_site.calls k (fun k => some k = v.ownBlock) v o s.f0 s.f1 (siteL o s) w0 w hB h1 hk).mono ?_
 rintro e w' ⟨v', rfl, hr, hb, hk⟩
 exact ⟨v', rfl, Kd.R_mono hr (fun _ _ => trivial), ⟨hb.os.trans hB.os.symm, hb.tape.trans hB.tape.symm, hb.output.trans hB.output.symm, hk.1, fun k h2 hne => hk.2 k h2 hne⟩⟩
theorem infoI : (Try.prog.info? 3).map (fun i => (i.zero, i.size, i.bytes)) = some (some (.int .i64 0), 1, 8) := by kernel_rfl
theorem infoI2 : ∃ i, Try.prog.info? 3 = some i ∧ i.size = 1 := by
 obtain ⟨i, h1, h2⟩ := Option.map_eq_some_iff.1 infoI
 simp only [Prod.mk.injEq] at h2
 exact ⟨i, h1, h2.2.1⟩
/-- A row of ints that grows. -/
structure InL (w : World) (v : Value) (l : List Int) (W : World) : Prop where
 b : Below w.heap.size w W
 row : Kd.R (Kd.int .i64) 3 W w.heap.size (fun _ => True) v l
/-- Marks in memory, whose sites grow. -/
structure SiZ (w : World) (g : Nat) (vs vy : Value) (o : List SY) (W : World) : Prop where
 b : Below w.heap.size w W
 lo : w.heap.size ≤ g
 hx : W.heap[g]? = some (.cells #[vs, vy] 30 (0, 0))
 row : Kd.R kY 38 W w.heap.size (fun _ => True) vy o
theorem SiZ.next {w W W' : World} {g : Nat} {vs vy : Value} {o : List SY} (h : SiZ w g vs vy o W) (hb : Below W.heap.size W W') : SiZ w g vs vy o W' := ⟨below_step h.b hb, h.lo, blk_below h.hx hb, Kd.R_below h.row hb⟩
theorem own_neY {W : World} {base : Nat} {ok : Nat → Prop} {v : Value} {o : List SY} (h : Kd.R kY 38 W base ok v o) {g : Nat} {cs : Array Value} {t : TypeId} (hg : W.heap[g]? = some (.cells cs t (0, 0))) (ht : t ≠ 38) : some g ≠ v.ownBlock := by
 intro e
 obtain ⟨i, ho⟩ := Kd.R_own h
 obtain ⟨cu, hcu⟩ := own_typed ho g e.symm
 rw [hg] at hcu
 injection hcu with hcu
 injection hcu with _ h2 _
 exact ht h2
/-- A site in its place: the row is grown, and laid where it was. -/
theorem SiZ.site {w W W' : World} {g : Nat} {vs vy : Value} {o o' : List SY} (h : SiZ w g vs vy o W) {e : Ending} (ha : RetSi vy o' w.heap.size W e W') : ∃ v', e = .returned v' ∧ Below w.heap.size w W' ∧ W'.heap[g]? = some (.cells #[vs, vy] 30 (0, 0)) ∧ SiZ w g vs v' o' (W'.setCell ⟨g, 1, none⟩ v') := by
 obtain ⟨v', rfl, hr, hg⟩ := ha
 have hb := below_grown h.b hg (own_base h.row)
 have hx := (hg.block g (blk_lt h.hx) (own_neY h.row h.hx (by decide))).trans h.hx
 exact ⟨v', rfl, hb, hx, below_set hb h.lo, h.lo, by simpa using blk_set hx 1 v', R_moveT rfl hr (set_typeM hx (by decide) 1 _)⟩
set_option maxRecDepth 1000000 in
set_option maxHeartbeats 8000000 in
theorem refPut_calls (A : Option Addr) (c : Nat) (xs : List Sp) (B : Option Addr) (d : Nat) (ys : List SY) (N a k : Nat) (m : Int) (w : World) (hr : Kd.C kSp w A xs.length xs) (hc : xs.length ≤ c) (hs : Kd.C kY w B ys.length ys) (hd : ys.length ≤ d) (hl : xs.length ≤ 1099511627776) (hly : ys.length ≤ 1099511627776)
  (hN : N ≤ 1099511627776) (haN : a ≤ N) (hk : k ≤ 1099511627776) (hok : spansOk (N : Int) none xs = true) :
  Calls Try.prog 22 #[.agg #[.slice A xs.length c, .slice B ys.length d], .int .i64 (N : Int), .int .i64 (a : Int), .int .i64 (k : Int), .int .i64 m] w (RetMk (putL a k m xs) (normY (ys.map (mvY (toP a k)))) w) := by
 have HR := Lib.hid hr
 have HS := Lib.hid hs
 obtain ⟨ke, hke⟩ := Go.Proofs.YtdgjjdpeaohebaaW.PrintWords.Ev.rounds (ref_each_ev N (by omega) xs ys (by omega) (fun s hs => by have := ok_each hok s hs; omega))
 obtain ⟨old, hold⟩ : ∃ l, l = (List.range N).map (fun i : Nat => colr 0 xs (i : Int)) := ⟨_, rfl⟩
 rw [← hold] at hke
 have KE := Lib.hid hke
 have LOld : Hid (old.length = N) := Lib.hid (by rw [hold]; simp)
 have PS : Hid (spansFrom [] 0 (old.take a ++ List.replicate k (max m 0) ++ old.drop a) = putL a k m xs) := Lib.hid (by rw [hold]; exact putL_spans hok haN)
 have LT : Hid ((old.take a ++ List.replicate k (max m 0) ++ old.drop a).length ≤ 3 * 1099511627776) := Lib.hid (by have := LOld.out; simp; omega)
 obtain ⟨ks, hks⟩ := Go.Proofs.YtdgjjdpeaohebaaW.PrintWords.Ev.rounds (ref_spans_ev (old.take a ++ List.replicate k (max m 0) ++ old.drop a) (by have := LT.out; omega))
 rw [PS.out] at hks
 have KS := Lib.hid hks
 generalize hpl : putL (a : Int) (k : Int) m xs = pl at KS
 have HPL := Lib.hid hpl
 obtain ⟨mm, hmm⟩ : ∃ z, z = max m 0 := ⟨_, rfl⟩
 have eM : (if m < 0 then (0 : Int) else m) = mm := by rw [hmm]; split <;> omega
 rw [← hmm] at KS PS LT
 clear hr hs hke hks hok hold hmm PS hpl
 go_enter Try.func22, Try.ntmps22
 go_upto_region 1 with fail
 refine gen2 (φ := fun W => Code.wp _ _ _ _ W) (P := fun W => Below w.heap.size w W ∧ W.heap[w.heap.size]? = some (.cells #[.slice A xs.length c, .slice B ys.length d] 30 (0, 0)) ∧ W.heap[w.heap.size + 1]? = some (.cells #[.slice none 0 0, .slice none 0 0] 30 (0, 0))) ⟨below_alloc (below_alloc (Below.refl _ _) _) _, blk_alloc (blk_new w _) _, blk_newM (by simp)⟩ ?_
 rintro V0 ⟨hb0, h50, h100⟩
 have B0 := Lib.hid hb0
 have X5 := Lib.hid h50
 have X10 := Lib.hid h100
 have x0 := (blk_cell h50 0).trans rfl
 have x1 := (blk_cell h50 1).trans rfl
 clear hb0 h50 h100
 go_wp2_with fail
 (go_at_call 33; refine (chancelref04_each.calls ke A c xs B d ys (N : Int) old _ (Kd.C_below HR.out B0.out) hc (Kd.C_below HS.out B0.out) hd KE.out).mono ?_; rintro e w3 ⟨v3, rfl, hr3, hb3⟩)
 obtain ⟨A3, c3, e3, hc3, hC3⟩ := Kd.R_reads hr3
 subst e3
 have B3 := Lib.hid (below_step B0.out hb3)
 have Y5 := Lib.hid (blk_below X5.out hb3)
 have Y10 := Lib.hid (blk_below X10.out hb3)
 have C3 := Lib.hid hC3
 have HC3 := Lib.hid hc3
 have L1 := Lib.hid (show InL w3 (.slice none 0 0) [] w3 from ⟨Below.refl _ _, Kd.R_nil _ _ _ _ _⟩)
 clear hr3 hb3 hC3 hc3 x0 x1 X5 X10 B0 KE
 obtain ⟨i3, hi3, hsz3⟩ := infoI2
 have hcut1 := cut_to (P := Try.prog) 34 3 .i64 Try.underlying34 hi3 A3 old.length c3 (a : Int) (by omega) (by have := LOld.out; omega) HC3.out
 have hcut2 := cut_from (P := Try.prog) 34 3 .i64 Try.underlying34 hi3 1 hsz3 A3 old.length c3 (a : Int) (by omega) (by have := LOld.out; omega)
 rw [Int.toNat_natCast] at hcut1 hcut2
 have hC1 := Lib.hid (Kd.C_take (m := a) C3.out (by have := LOld.out; omega))
 have hC2 : Hid (Kd.C (Kd.int .i64) w3 (if c3 = a then A3 else A3.map (·.add (a * 1))) (old.drop a).length (old.drop a)) := Lib.hid (Kd.C_drop (c := c3) (m := a) C3.out (by have := LOld.out; omega) HC3.out)
 have e1 : (old.take a).length = a := by rw [List.length_take]; have := LOld.out; omega
 have e2 : (old.drop a).length = old.length - a := by rw [List.length_drop]
 rw [← e2] at hcut2
 generalize (if c3 = a then A3 else A3.map (·.add (a * 1))) = A4 at hcut2 hC2
 replace hcut1 : ∀ W : World, (Instr.slice 34 (.slice A3 old.length c3) none (some (.int .i64 (a : Int))) none).run Try.prog W = .ok (.slice A3 (old.take a).length c3) W := by rw [e1]; exact hcut1
 clear e1 e2 hi3 hsz3
 have LA : Hid ((old.take a).length ≤ 1099511627776 ∧ (old.drop a).length ≤ 1099511627776) := Lib.hid (by have := LOld.out; simp; omega)
 generalize hlt : old.take a = la at hcut1 hC1 KS LT LA
 generalize hld : old.drop a = ld at hcut2 hC2 KS LT LA
 clear hlt hld C3 LOld
 go_upto_region 4 with (first | ((with_reducible refine gate_builtin (b := .append) rfl ?_); at_builtin; refine Kd.R_append_rows (Kd.int .i64) w3.heap.size ?hg (.tmp 20) (.tmp 23) 34 3 (.int .i64 0) 8 rfl Try.underlying34 infoI rfl (by decide) (by decide) _ ([] : List Int) la A3 la.length _ (fun _ => True) (fun _ => False) rfl rfl L1.out.row (Kd.C_below hC1.out L1.out.b) (fun x cs h => h) (fun _ h => h.elim) (fun _ _ => trivial) L1.out.b L1.out.b.size (by have := LA.out; have := LT.out; simp at *; omega) ?_; (case hg => rfl); intro v4 w4 ho4 hb4 hg4 hat4; have L2 := Lib.hid (show InL w3 v4 (([] : List Int) ++ la) w4 from ⟨hb4, ho4⟩); clear ho4 hb4 hg4 hat4))
 clear L1 hcut1
 rw [List.nil_append] at L2
 go_wp2
 go_loopw [13, 12] (fun s13 s12 wr => ∃ (kk : Nat) (v : Value), kk ≤ k ∧ s13 = .int .i64 (kk : Int) ∧ v = s12 ∧ Hid (InL w3 v (la ++ List.replicate kk mm) wr)) (fun s13 _ _ => k - cntM s13)
 case atStart => exact ⟨0, _, Nat.zero_le _, rfl, rfl, by simpa using L2⟩
 case round =>
  obtain ⟨kk, v, hkk, rfl, ev, ZW⟩ := hrel
  subst ev
  by_cases hlt : kk < k
  ·have d1 : decide ((kk : Int) < (k : Int)) = true := by simp; omega
   have w1_ : IntKind.i64.wrap ((kk : Int) + 1) = (kk : Int) + 1 := IntWalk.i64_in _ (by omega)
   have LE : Hid (((la ++ List.replicate kk mm).length + 1) * 8 ≤ 140737488355328) := Lib.hid (by have := LA.out; simp; omega)
   go_wp2_with (first | ((with_reducible refine gate_builtin (b := .append) rfl ?_); at_builtin; refine Kd.R_append (Kd.int .i64) (w0 := w3) w3.heap.size ?hg (.tmp 30) (.tmp 33) 34 3 (.int .i64 0) 8 rfl Try.underlying34 infoI rfl (by decide) (by decide) _ (la ++ List.replicate kk mm) mm [.int .i64 mm] (fun _ => True) (fun _ => False) rfl rfl rfl (fun _ hk => hk.elim) (fun _ _ => trivial) ?aO ?aB ?aS ?aL ?_; (case hg => rfl); (case aO => exact ZW.out.row); (case aB => exact ZW.out.b); (case aS => exact ZW.out.b.size); (case aL => exact LE.out); intro v8 w8 ho8 hb8 hg8 hat8; have Z8 := Lib.hid (show InL w3 v8 (la ++ List.replicate kk mm ++ [mm]) w8 from ⟨hb8, ho8⟩); clear ho8 hb8 hg8 hat8))
   go_roundw
   case rel => exact ⟨kk + 1, _, by omega, by go_num, rfl, by rw [List.replicate_succ', ← List.append_assoc]; exact Z8⟩
   case measure =>
    simp only [cntM]
    omega
  ·have d1 : decide ((kk : Int) < (k : Int)) = false := by simp; omega
   obtain rfl : k = kk := by omega
   have L3 := ZW
   clear ZW hlt hkk L2
   go_upto_region 9 with (first | ((with_reducible refine gate_builtin (b := .append) rfl ?_); at_builtin; refine Kd.R_append_rows (Kd.int .i64) w3.heap.size ?hg (.tmp 35) (.tmp 38) 34 3 (.int .i64 0) 8 rfl Try.underlying34 infoI rfl (by decide) (by decide) _ (la ++ List.replicate k mm) ld A4 ld.length _ (fun _ => True) (fun _ => False) rfl rfl L3.out.row (Kd.C_below hC2.out L3.out.b) (fun x cs h => h) (fun _ h => h.elim) (fun _ _ => trivial) L3.out.b L3.out.b.size (by have := LA.out; have := LT.out; simp at *; omega) ?_; (case hg => rfl); intro v9 w9 ho9 hb9 hg9 hat9; have L4 := Lib.hid (show InL w3 v9 ((la ++ List.replicate k mm) ++ ld) w9 from ⟨hb9, ho9⟩); clear ho9 hb9 hg9 hat9))
   clear L3 hcut2
   generalize la ++ List.replicate k mm ++ ld = ll at KS LT L4
   obtain ⟨A5, c5, e5, hc5, hC5⟩ := Kd.R_reads L4.out.row
   subst e5
   have C5 := Lib.hid (And.intro hC5 hc5)
   have B5 := Lib.hid L4.out.b
   clear hC5 hc5 hC1 hC2
   go_upto_region 10 with (first | (go_at_call 34; refine (chancelref04_spans.calls ks A5 c5 ll pl _ C5.out.1 C5.out.2 KS.out).mono ?_; rintro e wq ⟨vq, rfl, hrq, hbq⟩; obtain ⟨Aq, cq, eq⟩ := Kd.R_slice hrq; subst eq; have Rq := Lib.hid hrq; have HBq := Lib.hid hbq; clear hrq hbq) | ((with_reducible refine gate_dst (N := 14) rfl ?_); refine box_event ?hg (N := 14) ?hd (cs := #[.slice none 0 0, .slice none 0 0]) (t := 30) ?hr ?_; (case hd => rfl); (case hg => rfl); (case hr => first | (go_simp; done) | (go_simp; rfl)); intro gG hgG wG hxG hbG; have hgB : wq.heap.size ≤ gG := (by rw [hgG]; exact Nat.le_refl _); have GG := Lib.hid (And.intro hgB (And.intro hxG hbG)); have q0 := (blk_cell hxG 0).trans rfl; have q1 := (blk_cell hxG 1).trans rfl; have z0 := blk_frozen hxG 0; have z1 := blk_frozen hxG 1; clear hgG hxG hbG hgB))
   obtain ⟨fy, hfy⟩ : ∃ f, f = mvY (toP (a : Int) (k : Int)) := ⟨_, rfl⟩
   have HF := Lib.hid hfy
   refine gen2 (φ := fun W => Code.wp _ _ _ _ W) (P := fun W => SiZ wq gG (.slice Aq pl.length cq) (.slice none 0 0) [] W) ⟨below_set (below_set GG.out.2.2 GG.out.1) GG.out.1, GG.out.1, by simpa using blk_set (blk_set GG.out.2.1 0 (.slice Aq pl.length cq)) 1 (.slice none 0 0), Kd.R_nil _ _ _ _ _⟩ ?_
   rintro V1 hV1
   have S1 := Lib.hid hV1
   have D9 := Lib.hid (below_step B5.out HBq.out)
   have BQ := Lib.hid (below_step B3.out D9.out)
   have Q5 := Lib.hid (blk_below Y5.out D9.out)
   have Q10 := Lib.hid (blk_below Y10.out D9.out)
   have RQ := Lib.hid (Kd.R_lower (Kd.R_lower Rq.out B5.out.size) B3.out.size)
   clear hV1 GG hfy q0 q1 z0 z1 d1 L4 C5 KS Rq B5 D9 HBq B3 Y5 Y10 LT LA HC3
   go_wp2
   go_loopw [15] (fun s15 wr => ∃ (kk : Nat) (vy : Value), kk ≤ ys.length ∧ s15 = .int .i64 (kk : Int) ∧ Hid (SiZ wq gG (.slice Aq pl.length cq) vy (normY ((ys.take kk).map fy)) wr)) (fun s15 _ => ys.length - cntM s15)
   case atStart => exact ⟨0, _, Nat.zero_le _, rfl, S1⟩
   case round =>
    obtain ⟨kk, vy, hkk, rfl, ZW⟩ := hrel
    have LO : Hid ((normY ((ys.take kk).map fy)).length ≤ 1099511627776) := Lib.hid (by have h := normY_len ((ys.take kk).map fy); rw [List.length_map, List.length_take] at h; omega)
    by_cases hlt : kk < ys.length
    ·have d1 : decide ((kk : Int) < (ys.length : Int)) = true := by simp; omega
     have b1 : (0 : Int) ≤ (kk : Int) := by omega
     have b2 : (kk : Int) < (ys.length : Int) := by omega
     have w1_ : IntKind.i64.wrap ((kk : Int) + 1) = (kk : Int) + 1 := IntWalk.i64_in _ (by omega)
     obtain ⟨y, hy⟩ : ∃ y, ys[kk]? = some y := ⟨_, List.getElem?_eq_getElem hlt⟩
     have SN : Hid (normY ((ys.take (kk + 1)).map fy) = siteL (normY ((ys.take kk).map fy)) (fy y)) := Lib.hid (by
      obtain ⟨hl', e'⟩ := List.getElem?_eq_some_iff.1 hy
      rw [List.take_succ_eq_append_getElem hl', e', List.map_append]
      unfold normY
      rw [List.foldl_append]
      rfl)
     obtain ⟨ad, e0, y0, y1⟩ := at_Y (Kd.C_below HS.out (below_step BQ.out ZW.out.b)) hy hlt
     subst e0
     have x51 := (blk_cell (blk_below Q5.out ZW.out.b) 1).trans rfl
     clear hy
     generalize normY ((ys.take kk).map fy) = o at ZW SN LO
     go_upto_region 14 with (first | ((with_reducible refine gate_dst (N := 16) rfl ?_); refine box_event ?hg (N := 16) ?hd (cs := #[.int .i64 0, .int .i64 0]) (t := 38) ?hr ?_; (case hd => rfl); (case hg => rfl); (case hr => first | (go_simp; done) | (go_simp; rfl)); intro gS hgS wS hxS hbS; have GS := Lib.hid (show TBm 38 wr gS #[.int .i64 0, .int .i64 0] wS from ⟨hbS, by rw [hgS]; exact Nat.le_refl _, hxS⟩); have q0 := (blk_cell hxS 0).trans rfl; have q1 := (blk_cell hxS 1).trans rfl; have z0 := blk_frozen hxS 0; have z1 := blk_frozen hxS 1; clear hgS hxS hbS))
     refine gen2 (φ := fun W => Code.wp _ _ _ _ W) (P := fun W => TBm 38 wr gS #[.int .i64 y.f0, .int .i64 y.f1] W) ((GS.out.set 0 (.int .i64 y.f0)).set 1 (.int .i64 y.f1)) ?_
     clear q0 q1 z0 z1 GS y0 y1 x51
     rintro V3 hV3
     have T3 := Lib.hid hV3
     have s1 := (blk_cell hV3.hx 1).trans rfl
     have f1 := blk_frozen hV3.hx 1
     clear hV3
     obtain ⟨z, hz⟩ : ∃ z, z = toP (a : Int) (k : Int) y.f1 := ⟨_, rfl⟩
     have FZ : Hid (fy y = ⟨y.f0, z⟩) := Lib.hid (by rw [HF.out, hz]; rfl)
     by_cases hg : y.f1 > (a : Int)
     ·have d' : decide ((a : Int) < y.f1) = true := by simpa using hg
      have ew : IntKind.i64.wrap (y.f1 + (k : Int)) = z := by rw [hz]; unfold toP; rw [if_pos hg]
      clear hz
      go_upto_region 16 with fail
      refine gen2 (φ := fun W => Code.wp _ _ _ _ W) (P := fun W => TBm 38 wr gS #[.int .i64 y.f0, .int .i64 z] W) (T3.out.set 1 (.int .i64 z)) ?_
      clear s1 f1 T3 d' hg ew
      rintro V4 hV4
      have Z4 := Lib.hid (ZW.out.next hV4.b)
      have s0 := (blk_cell hV4.hx 0).trans rfl
      have s1 := (blk_cell hV4.hx 1).trans rfl
      have t1 := (blk_cell Z4.out.hx 1).trans rfl
      have g1 := blk_frozen Z4.out.hx 1
      clear hV4 ZW
      go_wp2_with fail
      (go_at_call 35; refine (site_calls vy o ⟨y.f0, z⟩ wq _ Z4.out.b Z4.out.row (by have := LO.out; omega)).mono ?_; rintro e w5 ha5)
      obtain ⟨v5, rfl, b5, hx5, z5⟩ := Z4.out.site ha5
      obtain ⟨A6, c6, e6⟩ := Kd.R_slice z5.row
      subst e6
      have Z5 := Lib.hid z5
      have g1 := blk_frozen hx5 1
      have t1 := (blk_cell hx5 1).trans rfl
      clear ha5 b5 hx5 z5 s0 s1 Z4
      go_upto_region 12 with fail
      refine gen2 (φ := fun W => Code.wp _ _ _ _ W) (P := fun W => SiZ wq gG (.slice Aq pl.length cq) (.slice A6 (siteL o ⟨y.f0, z⟩).length c6) (siteL o ⟨y.f0, z⟩) W) Z5.out ?_
      rintro V5 hV5
      have Z6 := Lib.hid hV5
      clear hV5 Z5 g1 t1
      go_wp2
      go_roundw
      case rel => exact ⟨kk + 1, _, by omega, by go_num, by rw [SN.out, FZ.out]; exact Z6⟩
      case measure =>
       simp only [cntM]
       omega
     ·have d' : decide ((a : Int) < y.f1) = false := by simpa using hg
      have ew : y.f1 = z := by rw [hz]; unfold toP; rw [if_neg hg]
      clear hz
      go_upto_region 16 with fail
      refine gen2 (φ := fun W => Code.wp _ _ _ _ W) (P := fun W => TBm 38 wr gS #[.int .i64 y.f0, .int .i64 z] W) (by rw [← ew]; exact T3.out) ?_
      clear s1 f1 T3 d' hg ew
      rintro V4 hV4
      have Z4 := Lib.hid (ZW.out.next hV4.b)
      have s0 := (blk_cell hV4.hx 0).trans rfl
      have s1 := (blk_cell hV4.hx 1).trans rfl
      have t1 := (blk_cell Z4.out.hx 1).trans rfl
      have g1 := blk_frozen Z4.out.hx 1
      clear hV4 ZW
      go_wp2_with fail
      (go_at_call 35; refine (site_calls vy o ⟨y.f0, z⟩ wq _ Z4.out.b Z4.out.row (by have := LO.out; omega)).mono ?_; rintro e w5 ha5)
      obtain ⟨v5, rfl, b5, hx5, z5⟩ := Z4.out.site ha5
      obtain ⟨A6, c6, e6⟩ := Kd.R_slice z5.row
      subst e6
      have Z5 := Lib.hid z5
      have g1 := blk_frozen hx5 1
      have t1 := (blk_cell hx5 1).trans rfl
      clear ha5 b5 hx5 z5 s0 s1 Z4
      go_upto_region 12 with fail
      refine gen2 (φ := fun W => Code.wp _ _ _ _ W) (P := fun W => SiZ wq gG (.slice Aq pl.length cq) (.slice A6 (siteL o ⟨y.f0, z⟩).length c6) (siteL o ⟨y.f0, z⟩) W) Z5.out ?_
      rintro V5 hV5
      have Z6 := Lib.hid hV5
      clear hV5 Z5 g1 t1
      go_wp2
      go_roundw
      case rel => exact ⟨kk + 1, _, by omega, by go_num, by rw [SN.out, FZ.out]; exact Z6⟩
      case measure =>
       simp only [cntM]
       omega
    ·have d1 : decide ((kk : Int) < (ys.length : Int)) = false := by simp; omega
     obtain rfl : kk = ys.length := by omega
     rw [List.take_length] at ZW
     rw [HF.out] at ZW
     clear LO
     generalize hnz : normY (ys.map (mvY (toP (a : Int) (k : Int)))) = nz at ZW ⊢
     have HNZ := Lib.hid hnz
     clear hnz
     obtain ⟨Ay, cy, ey⟩ := Kd.R_slice ZW.out.row
     subst ey
     have x51 := (blk_cell (blk_below Q5.out ZW.out.b) 1).trans rfl
     have t0 := (blk_cell ZW.out.hx 0).trans rfl
     have t1 := (blk_cell ZW.out.hx 1).trans rfl
     have HB8 := Lib.hid (blk_below Q10.out ZW.out.b)
     have r0 := (blk_cell HB8.out 0).trans rfl
     have r1 := (blk_cell HB8.out 1).trans rfl
     have z0 := blk_frozen HB8.out 0
     have z1 := blk_frozen HB8.out 1
     have BW := Lib.hid (below_step BQ.out ZW.out.b)
     have RS' := Lib.hid (Kd.R_below RQ.out ZW.out.b)
     have RY := Lib.hid (Kd.R_lower ZW.out.row BQ.out.size)
     clear ZW S1
     go_wp2
     refine bodyPost_ret (results_cell_row rfl _ _ (w.heap.size + 1) 30 #[.slice Aq pl.length cq, .slice Ay nz.length cy] (0, 0) _ rfl (by simpa using blk_set (blk_set HB8.out 0 (.slice Aq pl.length cq)) 1 (.slice Ay nz.length cy)) Try.underlying30 rfl (by kernel_rfl)) rfl ?_
     rw [HNZ.out]
     exact ⟨Aq, cq, Ay, cy, rfl, R_moveT rfl (R_moveT rfl RS'.out (set_typeM HB8.out (by decide) 0 _)) (set_typeM (blk_set HB8.out 0 _) (by decide) 1 _), R_moveT rfl (R_moveT rfl RY.out (set_typeM HB8.out (by decide) 0 _)) (set_typeM (blk_set HB8.out 0 _) (by decide) 1 _), below_set (below_set BW.out (by omega)) (by omega)⟩
end Go.Proofs.Ytdgjjdpeaohebaa.Mk
