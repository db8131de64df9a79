/- Views: the walks of a segment's Label and of Look. Conditions: at most 1000 segments, of at most 2^40 bytes, spans, sites. -/
import Derived.Test.YtlcfhmnjdkhkoaaDoorGE
import Derived.Laws.Cover4
namespace Go.Proofs.YtlcfhmnjdkhkoaaDoor.Seg
open Go.RowKit Go.Proofs.YtlcfhmnjdkhkoaaDoorPl Go.Maps Go.Proofs.YtlcfhmnjdkhkoaaDoorW.PrintWords Go.Proofs.YtlcfhmnjdkhkoaaDoorW.PrintLast Go.Proofs.YtlcfhmnjdkhkoaaDoorW.PrintMore Go.Proofs.YtlcfhmnjdkhkoaaDoor.Rope Go.Proofs.YtlcfhmnjdkhkoaaDoor.PViewRuns Go.Proofs.YtlcfhmnjdkhkoaaDoor.Pure
set_option linter.unusedVariables false
set_option linter.unusedSimpArgs false
set_option maxRecDepth 100000 in
set_option maxHeartbeats 800000 in
theorem label_segcalls (x : G) (p A : Option Addr) (c : Nat) (B : Option Addr) (d : Nat) (w : World) :
  Calls Tryd.prog 32 #[.agg (sgC x p A c B d)] w fun e w' => e = .returned (.int .i64 x.f1) ∧ Below w.heap.size w w' := by
 go_enter Tryd.func32, Tryd.ntmps32
 go_wp2
 go_ret
 refine ⟨rfl, ?_⟩
 repeat (first | exact Below.refl _ _ | apply below_alloc | (refine below_set ?_ (by simp; try omega)))
theorem infoC42 : (Tryd.prog.info? 42).map (fun i => (i.zero, i.size, i.bytes)) = some (some (.agg #[.int .i64 0, .int .i64 0, .int .i64 0, .bool false]), 4, 32) := by kernel_rfl
/-- A piece. -/
noncomputable def pieceG (q : Int → Bool) (x : G) : S42 := ⟨x.f0, x.f1, if q x.f1 then cnt x.f2 else 0, q x.f1⟩
end Go.Proofs.YtlcfhmnjdkhkoaaDoor.Seg
/- Views: the letters of a right text, each one's rune, and what is seen of a document's segments (plain laws). Conditions: texts of at most 2^40 bytes. -/
namespace Go.Proofs.YtlcfhmnjdkhkoaaDoor.Seg
open Go.RowKit Go.Proofs.YtlcfhmnjdkhkoaaDoorPl Go.Maps Go.Proofs.YtlcfhmnjdkhkoaaDoorW.PrintWords Go.Proofs.YtlcfhmnjdkhkoaaDoorW.PrintLast Go.Proofs.YtlcfhmnjdkhkoaaDoorW.PrintMore Go.Proofs.YtlcfhmnjdkhkoaaDoor.Rope Go.Proofs.YtlcfhmnjdkhkoaaDoor.PViewRuns Go.Proofs.YtlcfhmnjdkhkoaaDoor.Pure
set_option linter.unusedVariables false
set_option linter.unusedSimpArgs false
theorem letts_uniq : ∀ {cs ds : List (List UInt8)}, Letts cs → Letts ds → cs.flatten = ds.flatten → cs = ds
 | [], [], _, _, _ => rfl
 | [], d :: r, _, hd, h => by
  have h1 := (hd d (by simp)).pos
  have h2 := congrArg List.length h
  rw [List.flatten_cons, List.length_append] at h2
  simp only [List.flatten_nil, List.length_nil] at h2
  omega
 | c :: r, [], hc, _, h => by
  have h1 := (hc c (by simp)).pos
  have h2 := congrArg List.length h
  rw [List.flatten_cons, List.length_append] at h2
  simp only [List.flatten_nil, List.length_nil] at h2
  omega
 | c :: r, d :: q, hc, hd, h => by
  have e1 := lett_append (hc c (by simp)) r.flatten
  have e2 := lett_append (hd d (by simp)) q.flatten
  rw [List.flatten_cons, List.flatten_cons] at h
  rw [h, e2] at e1
  have el : c.length = d.length := by rw [← (hc c (by simp)).1, ← (hd d (by simp)).1, e1]
  have ec : c = d := by
   have := congrArg (List.take c.length) h
   rw [List.take_left, el, List.take_left] at this
   exact this
  subst ec
  have er := List.append_cancel_left h
  rw [letts_uniq (fun x hx => hc x (by simp [hx])) (fun x hx => hd x (by simp [hx])) er]
/-- The letters of a right text. -/
noncomputable def lets (s : ByteArray) : List (List UInt8) := open Classical in if h : ∃ cs, Letts cs ∧ s.data.toList = cs.flatten then Classical.choose h else []
theorem lets_eq {s : ByteArray} {cs : List (List UInt8)} (hl : Letts cs) (h : s.data.toList = cs.flatten) : lets s = cs := by
 have hx : ∃ cs, Letts cs ∧ s.data.toList = cs.flatten := ⟨cs, hl, h⟩
 unfold lets
 rw [dif_pos hx]
 have h2 := Classical.choose_spec hx
 exact letts_uniq h2.1 hl (h2.2.symm.trans h)
theorem lets_ok {s : ByteArray} (hv : Lib.validD s.data.toList = true) : Letts (lets s) ∧ s.data.toList = (lets s).flatten := by
 obtain ⟨cs, hl, h⟩ := (validD_iff _).1 hv
 rw [lets_eq hl h]
 exact ⟨hl, h⟩
theorem cnt_lets {s : ByteArray} (hv : Lib.validD s.data.toList = true) (hs : s.size ≤ 1099511627776) : cnt s = ((lets s).length : Int) := cnt_eq (lets_ok hv).1 (lets_ok hv).2 hs
theorem lets_le {s : ByteArray} (hv : Lib.validD s.data.toList = true) : (lets s).length ≤ s.size := by
 have k := letts_le _ (lets_ok hv).1
 rw [← (lets_ok hv).2, toList_size] at k
 exact k
/-- A letter's rune. -/
def rune (c : List UInt8) : Int := ((Lib.decodeL c).1 : Int)
theorem ofNat_of {n : Nat} {b : UInt8} (h : n = b.toNat) : UInt8.ofNat n = b := by rw [h]; exact UInt8.ofNat_toNat
theorem len1 {c : List UInt8} (h : c.length = 1) : ∃ b0, c = [b0] := by
 match c, h with
 | [b0], _ => exact ⟨b0, rfl⟩
theorem len2 {c : List UInt8} (h : c.length = 2) : ∃ b0 b1, c = [b0, b1] := by
 match c, h with
 | [b0, b1], _ => exact ⟨b0, b1, rfl⟩
theorem len3 {c : List UInt8} (h : c.length = 3) : ∃ b0 b1 b2, c = [b0, b1, b2] := by
 match c, h with
 | [b0, b1, b2], _ => exact ⟨b0, b1, b2, rfl⟩
theorem len4 {c : List UInt8} (h : c.length = 4) : ∃ b0 b1 b2 b3, c = [b0, b1, b2, b3] := by
 match c, h with
 | [b0, b1, b2, b3], _ => exact ⟨b0, b1, b2, b3, rfl⟩
theorem validN (r : Nat) (h : r < 55296 ∨ (57344 ≤ r ∧ r ≤ 1114111)) : Utf8.valid (r : Int) = true := by unfold Utf8.valid; simp; omega
theorem encN (v : Nat) (h : Utf8.valid (v : Int) = true) : Utf8.encode (v : Int) = if v < 128 then ⟨#[UInt8.ofNat v]⟩ else if v < 2048 then ⟨#[UInt8.ofNat (192 + v / 64), UInt8.ofNat (128 + v % 64)]⟩ else if v < 65536 then ⟨#[UInt8.ofNat (224 + v / 4096), UInt8.ofNat (128 + v / 64 % 64), UInt8.ofNat (128 + v % 64)]⟩ else ⟨#[UInt8.ofNat (240 + v / 262144), UInt8.ofNat (128 + v / 4096 % 64), UInt8.ofNat (128 + v / 64 % 64), UInt8.ofNat (128 + v % 64)]⟩ := by
 unfold Utf8.encode
 rw [h]
 simp only [if_true, Int.toNat_natCast]
theorem enc1 (b0 : UInt8) (v : Nat) (hv : b0.toNat = v) (d : b0.toNat < 128) : (Utf8.encode (v : Int)).data.toList = [b0] := by
 have k0 := b0.toNat_lt
 rw [encN v (validN v (by omega)), if_pos (by omega)]
 rw [ofNat_of (n := v) (b := b0) (by omega)]
theorem enc2 (b0 b1 : UInt8) (v : Nat) (hv : b0.toNat % 32 * 64 + b1.toNat % 64 = v) (d1 : b0.toNat / 32 = 6) (d3 : b1.toNat / 64 = 2) (dv : 128 ≤ v) : (Utf8.encode (v : Int)).data.toList = [b0, b1] := by
 have k0 := b0.toNat_lt
 have k1 := b1.toNat_lt
 rw [encN v (validN v (by omega)), if_neg (by omega), if_pos (by omega)]
 rw [ofNat_of (n := 192 + v / 64) (b := b0) (by omega), ofNat_of (n := 128 + v % 64) (b := b1) (by omega)]
theorem enc3 (b0 b1 b2 : UInt8) (v : Nat) (hv : b0.toNat % 16 * 4096 + b1.toNat % 64 * 64 + b2.toNat % 64 = v) (d1 : b0.toNat / 16 = 14) (d3 : b1.toNat / 64 = 2) (d4 : b2.toNat / 64 = 2) (dv : 2048 ≤ v) (ds : v < 55296 ∨ 57344 ≤ v) : (Utf8.encode (v : Int)).data.toList = [b0, b1, b2] := by
 have k0 := b0.toNat_lt
 have k1 := b1.toNat_lt
 have k2 := b2.toNat_lt
 rw [encN v (validN v (by omega)), if_neg (by omega), if_neg (by omega), if_pos (by omega)]
 rw [ofNat_of (n := 224 + v / 4096) (b := b0) (by omega), ofNat_of (n := 128 + v / 64 % 64) (b := b1) (by omega), ofNat_of (n := 128 + v % 64) (b := b2) (by omega)]
theorem enc4 (b0 b1 b2 b3 : UInt8) (v : Nat) (hv : b0.toNat % 8 * 262144 + b1.toNat % 64 * 4096 + b2.toNat % 64 * 64 + b3.toNat % 64 = v) (d1 : b0.toNat / 8 = 30) (d3 : b1.toNat / 64 = 2) (d4 : b2.toNat / 64 = 2) (d5 : b3.toNat / 64 = 2) (dv : 65536 ≤ v) (dw : v ≤ 1114111) : (Utf8.encode (v : Int)).data.toList = [b0, b1, b2, b3] := by
 have k0 := b0.toNat_lt
 have k1 := b1.toNat_lt
 have k2 := b2.toNat_lt
 have k3 := b3.toNat_lt
 rw [encN v (validN v (by omega)), if_neg (by omega), if_neg (by omega), if_neg (by omega)]
 rw [ofNat_of (n := 240 + v / 262144) (b := b0) (by omega), ofNat_of (n := 128 + v / 4096 % 64) (b := b1) (by omega), ofNat_of (n := 128 + v / 64 % 64) (b := b2) (by omega), ofNat_of (n := 128 + v % 64) (b := b3) (by omega)]
theorem encode_is {c : List UInt8} (h : Lett c) : (Utf8.encode (rune c)).data.toList = c := by
 obtain ⟨h1, h2, h3⟩ := h
 unfold rune
 rw [Lib.decodeL_N] at *
 rcases Lib.decodeN_shape c.length (c.getD 0 0).toNat (c.getD 1 0).toNat (c.getD 2 0).toNat (c.getD 3 0).toNat with ⟨d, e⟩ | ⟨d1, d2, d3, dv, e⟩ | ⟨d1, d2, d3, d4, dv, ds, e⟩ | ⟨d1, d2, d3, d4, d5, dv, dw, e⟩ | e
 ·rw [e] at h1 ⊢
  obtain ⟨b0, rfl⟩ := len1 (show c.length = 1 from h1.symm)
  exact enc1 b0 _ rfl d
 ·generalize hv : (c.getD 0 0).toNat % 32 * 64 + (c.getD 1 0).toNat % 64 = v at e dv
  rw [e] at h1 ⊢
  obtain ⟨b0, b1, rfl⟩ := len2 (show c.length = 2 from h1.symm)
  exact enc2 b0 b1 _ hv d1 d3 dv
 ·generalize hv : (c.getD 0 0).toNat % 16 * 4096 + (c.getD 1 0).toNat % 64 * 64 + (c.getD 2 0).toNat % 64 = v at e dv ds
  rw [e] at h1 ⊢
  obtain ⟨b0, b1, b2, rfl⟩ := len3 (show c.length = 3 from h1.symm)
  exact enc3 b0 b1 b2 _ hv d1 d3 d4 dv ds
 ·generalize hv : (c.getD 0 0).toNat % 8 * 262144 + (c.getD 1 0).toNat % 64 * 4096 + (c.getD 2 0).toNat % 64 * 64 + (c.getD 3 0).toNat % 64 = v at e dv dw
  rw [e] at h1 ⊢
  obtain ⟨b0, b1, b2, b3, rfl⟩ := len4 (show c.length = 4 from h1.symm)
  exact enc4 b0 b1 b2 b3 _ hv d1 d3 d4 d5 dv dw
 ·rw [e] at h3; exact absurd ⟨rfl, rfl⟩ h3
/-- Letters, one behind the other, as a text. -/
def txtB (l : List (List UInt8)) : ByteArray := ⟨l.flatten.toArray⟩
theorem ba_ext {s t : ByteArray} (h : s.data.toList = t.data.toList) : s = t := by
 cases s; cases t
 congr 1
 exact Array.toList_inj.1 h
theorem txtB_list (l : List (List UInt8)) : (txtB l).data.toList = l.flatten := by simp [txtB]
theorem txtB_lets {s : ByteArray} (hv : Lib.validD s.data.toList = true) : txtB (lets s) = s := ba_ext (by rw [txtB_list, (lets_ok hv).2])
theorem txtB_app (l r : List (List UInt8)) : txtB (l ++ r) = txtB l ++ txtB r := ba_ext (by rw [txtB_list, ByteArray.data_append, Array.toList_append, txtB_list, txtB_list, List.flatten_append])
theorem txtB_one {c : List UInt8} (h : Lett c) : runesBytes [rune c] = txtB [c] := ba_ext (by
 have e : runesBytes [rune c] = ByteArray.empty ++ Utf8.encode (rune c) := rfl
 rw [e, ByteArray.data_append, Array.toList_append, encode_is h, txtB_list]
 rw [show ByteArray.empty.data.toList = [] from rfl, List.nil_append, List.flatten_cons, List.flatten_nil, List.append_nil])
theorem txtB_nil : txtB [] = ByteArray.empty := rfl
theorem size_lettsX {s : ByteArray} {c : List UInt8} {r : List (List UInt8)} (h : s.data.toList = (c :: r).flatten) (hc : Lett c) (hs : s.size ≤ 1099511627776) : 0 < s.size ∧ c.length ≤ s.size ∧ (s.extract c.length s.size).data.toList = r.flatten ∧ Ev (fun k => chancelref01_size.f k s) ((c.length : Int), rune c) := by
 have hl := congrArg List.length h
 rw [toList_size, List.flatten_cons, List.length_append] at hl
 have hp := hc.pos
 refine ⟨by omega, by omega, by rw [ext_tail, h, List.flatten_cons, List.drop_left], ?_⟩
 have := size_ev s (by omega) (by omega)
 rw [decode_zero, h, List.flatten_cons, lett_append hc, hc.1] at this
 exact this
theorem Letters_r0 : ∀ (cs : List (List UInt8)) (s : ByteArray) (acc : List Int), Letts cs → s.data.toList = cs.flatten → s.size ≤ 1099511627776 → acc.length + cs.length ≤ 1099511627776 →
  Ev (fun k => chancelref01_Letters.l0 k s acc) (acc ++ cs.map rune)
 | [], s, acc, _, h, hs, _ => by
  have h1 : s.toList = ([] : List UInt8) := (nil_iff s).2 (by rw [← toList_size, h]; rfl)
  rw [List.map_nil, List.append_nil]
  exact ev_next (f := fun _ => some acc) (fun k => by simp only [chancelref01_Letters.l0]; rw [if_pos h1]) (Ev.now _)
 | c :: r, s, acc, hl, h, hs, hb => by
  obtain ⟨h0, h1, h2, hx⟩ := size_lettsX h (hl c (by simp)) hs
  have h3 : ¬ s.toList = ([] : List UInt8) := fun h => by have := (nil_iff s).1 h; omega
  have hq := Letters_r0 r (s.extract c.length s.size) (acc ++ [rune c]) (fun d hd => hl d (by simp [hd])) h2 (by rw [ByteArray.size_extract]; omega) (by simp at *; omega)
  rw [List.append_assoc] at hq
  refine ev_next (fun k => by simp only [chancelref01_Letters.l0]; rw [if_neg h3]) (Ev.bind hx ?_)
  simp only [List.length_cons] at hb
  simp only [if_pos (show acc.length < 35184372088832 by omega), if_pos (show (0 : Int) ≤ (c.length : Int) by omega), if_pos (show (c.length : Int) ≤ (s.size : Int) by omega), Int.toNat_natCast]
  exact hq
theorem Letters_ev {s : ByteArray} (hv : Lib.validD s.data.toList = true) (hs : s.size ≤ 1099511627776) : Ev (fun k => chancelref01_Letters.f k s) ((lets s).map rune) := by
 have k := lets_le hv
 have := Letters_r0 (lets s) s [] (lets_ok hv).1 (lets_ok hv).2 hs (by simp; omega)
 exact this
/-- How wide a piece is. -/
noncomputable def wideG (q : Int → Bool) (x : G) : Nat := if q x.f1 then (lets x.f2).length else 1
abbrev Run := S51
abbrev kR := k51
abbrev kP := k42
noncomputable def runG (q : Int → Bool) (x : G) (a b : Nat) : Run := ⟨x.f0, x.f1, q x.f1, if q x.f1 then txtB (((lets x.f2).take b).drop a) else ⟨#[]⟩⟩
/-- What is seen of one piece that begins at s. -/
noncomputable def oneG (q : Int → Bool) (f n s : Int) (x : G) : List Run := if max (f - s) 0 < min (wideG q x : Int) (n - (s - f)) then [runG q x (max (f - s) 0).toNat (min (wideG q x : Int) (n - (s - f))).toNat] else []
noncomputable def runsG (q : Int → Bool) (f n : Int) : Int → List G → List Run
 | _, [] => []
 | s, x :: r => oneG q f n s x ++ runsG q f n (s + wideG q x) r
noncomputable def stG (q : Int → Bool) : List G → Nat
 | [] => 0
 | x :: r => wideG q x + stG q r
theorem stG_snoc (q : Int → Bool) : ∀ (xs : List G) (x : G), stG q (xs ++ [x]) = stG q xs + wideG q x
 | [], x => by simp [stG]
 | y :: r, x => by simp only [List.cons_append, stG, stG_snoc q r x]; omega
theorem runsG_snoc (q : Int → Bool) (f n : Int) : ∀ (xs : List G) (s : Int) (x : G), runsG q f n s (xs ++ [x]) = runsG q f n s xs ++ oneG q f n (s + stG q xs) x
 | [], s, x => by simp [runsG, stG]
 | y :: r, s, x => by
  simp only [List.cons_append, runsG, stG, runsG_snoc q f n r]
  rw [List.append_assoc, show s + (wideG q y : Int) + (stG q r : Int) = s + ((wideG q y + stG q r : Nat) : Int) by omega]
theorem take_snocG {xs : List G} {j : Nat} {x : G} (h : xs[j]? = some x) : xs.take (j + 1) = xs.take j ++ [x] := by
 obtain ⟨hl, e⟩ := List.getElem?_eq_some_iff.1 h
 rw [List.take_succ_eq_append_getElem hl, e]
theorem stG_take {q : Int → Bool} {xs : List G} {j : Nat} {x : G} (h : xs[j]? = some x) : stG q (xs.take (j + 1)) = stG q (xs.take j) + wideG q x := by rw [take_snocG h, stG_snoc]
theorem runsG_take {q : Int → Bool} {f n : Int} {xs : List G} {j : Nat} {x : G} (h : xs[j]? = some x) : runsG q f n 0 (xs.take (j + 1)) = runsG q f n 0 (xs.take j) ++ oneG q f n (stG q (xs.take j)) x := by rw [take_snocG h, runsG_snoc, Int.zero_add]
theorem oneG_len (q : Int → Bool) (f n s : Int) (x : G) : (oneG q f n s x).length ≤ 1 := by unfold oneG; split <;> simp
theorem runsG_len (q : Int → Bool) (f n : Int) : ∀ (xs : List G) (s : Int), (runsG q f n s xs).length ≤ xs.length
 | [], s => by simp [runsG]
 | x :: r, s => by
  have := oneG_len q f n s x
  have := runsG_len q f n r (s + wideG q x)
  simp only [runsG, List.length_append, List.length_cons]
  omega
theorem okB_valid {x : G} (h : okB x = true) : Lib.validD x.f2.data.toList = true := by
 unfold okB at h
 rw [Bool.and_eq_true] at h
 exact h.1
theorem wideG_le {q : Int → Bool} {x : G} (h : okB x = true) (hz : x.f2.size ≤ 1099511627776) : wideG q x ≤ 1099511627776 := by
 unfold wideG
 have := lets_le (okB_valid h)
 split <;> omega
theorem pieceG_wide {q : Int → Bool} {x : G} (h : okB x = true) (hz : x.f2.size ≤ 1099511627776) : view_wide.f (pieceG q x).f0 (pieceG q x).f1 (pieceG q x).f2 (pieceG q x).f3 = some (wideG q x : Int) := by
 unfold view_wide.f pieceG wideG
 cases q x.f1 with
 | true => simp only [if_true]; rw [cnt_lets (okB_valid h) hz]
 | false => rfl
end Go.Proofs.YtlcfhmnjdkhkoaaDoor.Seg
/- Views: the walk of Look. Conditions: at most 1000 segments, of at most 2^40 bytes, spans, sites. -/
namespace Go.Proofs.YtlcfhmnjdkhkoaaDoor.Seg
open Go.RowKit Go.Proofs.YtlcfhmnjdkhkoaaDoorPl Go.Maps Go.Proofs.YtlcfhmnjdkhkoaaDoorW.PrintWords Go.Proofs.YtlcfhmnjdkhkoaaDoorW.PrintLast Go.Proofs.YtlcfhmnjdkhkoaaDoorW.PrintMore Go.Proofs.YtlcfhmnjdkhkoaaDoor.Rope Go.Proofs.YtlcfhmnjdkhkoaaDoor.PViewRuns Go.Proofs.YtlcfhmnjdkhkoaaDoor.Pure
set_option linter.unusedVariables false
set_option linter.unusedSimpArgs false
set_option maxRecDepth 100000 in
set_option maxHeartbeats 800000 in
theorem rope_segcalls (x : G) (p A : Option Addr) (c : Nat) (B : Option Addr) (d : Nat) (w : World) :
  Calls Tryd.prog 26 #[.agg (sgC x p A c B d)] w fun e w' => e = .returned (.pointer p) ∧ Below w.heap.size w w' := by
 go_enter Tryd.func26, Tryd.ntmps26
 go_wp2
 go_ret
 refine ⟨rfl, ?_⟩
 repeat (first | exact Below.refl _ _ | apply below_alloc | (refine below_set ?_ (by simp; try omega)))
/-- What is asked of the function that tells which labels are open, in every world behind w. -/
abbrev PredL (w : World) (g : Nat) (lb : Array Value) (q : Int → Bool) : Prop :=
 ∀ (W : World) (n : Int), Below w.heap.size w W → Calls Tryd.prog g (#[Value.int .i64 n] ++ lb) W fun e w' => e = .returned (.bool (q n)) ∧ Below W.heap.size W w'
/-- What holds all along Look. -/
structure LoZ (w : World) (A : Option Addr) (c : Nat) (xss : List (List Value)) (xs : List G) (v : Value) (is : List (S42)) (W : World) : Prop where
 b : Below w.heap.size w W
 sh : Sh W A c xss xs
 row : Kd.R kP 42 W w.heap.size (fun _ => True) v is
theorem LoZ.next {w W W' : World} {A : Option Addr} {c : Nat} {xss : List (List Value)} {xs : List G} {v : Value} {is : List (S42)} (h : LoZ w A c xss xs v is W) (hb : Below W.heap.size W W') : LoZ w A c xss xs v is W' := ⟨below_step h.b hb, h.sh.below hb, Kd.R_below h.row hb⟩
def RetLook (ps : List (S42)) (w : World) (e : Ending) (w' : World) : Prop := ∃ v, e = .returned v ∧ Kd.R kP 42 w' w.heap.size (fun _ => True) v ps ∧ Below w.heap.size w w'
theorem take_map {α β : Type} {f : α → β} {xs : List α} {j : Nat} {x : α} (h : xs[j]? = some x) : (xs.take (j + 1)).map f = (xs.take j).map f ++ [f x] := by
 obtain ⟨hl, e⟩ := List.getElem?_eq_some_iff.1 h
 rw [List.take_succ_eq_append_getElem hl, e, List.map_append]
 rfl
/-- A world behind V with a piece's block. -/
structure PB (V : World) (g : Nat) (cs : Array Value) (W : World) : Prop where
 b : Below V.heap.size V W
 lo : V.heap.size ≤ g
 hx : W.heap[g]? = some (.cells cs 42 (0, 0))
theorem PB.next {V W W' : World} {g : Nat} {cs : Array Value} (h : PB V g cs W) (hb : Below W.heap.size W W') : PB V g cs W' := ⟨below_step h.b hb, h.lo, blk_below h.hx hb⟩
theorem PB.set {V W : World} {g : Nat} {cs : Array Value} (h : PB V g cs W) (j : Nat) (u : Value) : PB V g (cs.setIfInBounds j u) (W.setCell ⟨g, j, none⟩ u) := ⟨below_set h.b h.lo, h.lo, by simpa using blk_set h.hx j u⟩
attribute [local go_sem] max2_int min2_int max_two min_two
set_option maxRecDepth 1000000 in
set_option maxHeartbeats 8000000 in
theorem look_calls (f : Bool) (A : Option Addr) (c : Nat) (xss : List (List Value)) (xs : List G) (g : Nat) (lb : Array Value) (q : Int → Bool) (w : World) (eg : ∀ args w, (callFunc g args).run Tryd.prog w = .ok (.enter g args) w) (hp : PredL w g lb q) (h : Sh w A c xss xs) (hl : xss.length ≤ 1099511627776) (hz : ∀ x ∈ xs, Sz x) : Calls Tryd.prog 12 #[.agg #[.bool f, .slice A xss.length c], .func (.func g) #[] lb] w (RetLook (xs.map (pieceG q)) w) := by
 have HS := Lib.hid h
 have HP := Lib.hid hp
 have HZ := Lib.hid hz
 clear h hp hz
 go_enter Tryd.func12, Tryd.ntmps12
 go_wp2_with fail
 have B0 := Lib.hid (below_alloc (Below.refl w.heap.size w) (.cells #[.bool f, .slice A xss.length c] 27))
 (go_at_call 24; refine (segs_calls f A c xss xs _ (HS.out.below B0.out) hl).mono ?_; rintro e w1 ⟨v1, rfl, hr1, hb1⟩)
 obtain ⟨A7, c7, e7⟩ := Kd.R_slice hr1
 subst e7
 have I1 := Lib.hid (show LoZ w A7 c7 xss xs (.slice none 0 0) [] w1 from ⟨below_step B0.out hb1, Sh.of hr1 (HS.out.sgs.below (below_step B0.out hb1)), Kd.R_nil _ _ _ _ _⟩)
 clear hr1 hb1 B0
 go_wp2
 go_loopw [12, 5] (fun s9 s3 wr => ∃ (kk : Nat) (v : Value), kk ≤ xss.length ∧ s9 = .int .i64 (kk : Int) ∧ v = s3 ∧ Hid (LoZ w A7 c7 xss xs v ((xs.take kk).map (pieceG q)) wr)) (fun s9 _ _ => xss.length - cntV s9)
 case atStart => exact ⟨0, _, Nat.zero_le _, rfl, rfl, by simpa using I1⟩
 case round =>
  obtain ⟨kk, v, hkk, rfl, ev, IW⟩ := hrel
  subst ev
  by_cases hlt : kk < xss.length
  ·have d1 : decide ((kk : Int) < (xss.length : Int)) = true := by simp; omega
   have b1 : (0 : Int) ≤ (kk : Int) := by omega
   have b2 : (kk : Int) < (xss.length : Int) := by omega
   obtain ⟨cs, hcs⟩ : ∃ cs, xss[kk]? = some cs := ⟨_, List.getElem?_eq_getElem hlt⟩
   obtain ⟨x, hx⟩ : ∃ x, xs[kk]? = some x := ⟨_, List.getElem?_eq_getElem (by rw [HS.out.len]; exact hlt)⟩
   obtain ⟨p, A1, c1, B1, d1_, ecs, hsp⟩ := IW.out.sh.sgs.2 kk cs x hcs hx
   subst ecs
   obtain ⟨ad, e0, y0, y1, y2, y3, y4⟩ := at_Q IW.out.sh.row hcs hlt
   subst e0
   have TK := Lib.hid (take_map (f := pieceG q) hx)
   have SPX := Lib.hid hsp
   have ZX := Lib.hid (HZ.out x (List.mem_of_getElem? hx))
   clear hcs hx hsp
   go_upto_region 5 with (first | ((with_reducible refine gate_dst (N := 7) rfl ?_); refine box_event ?hg (N := 7) ?hd (cs := #[.int .i64 0, .int .i64 0, .pointer none, .slice none 0 0, .slice none 0 0]) (t := 57) ?hr ?_; (case hd => rfl); (case hg => rfl); (case hr => first | (go_simp; done) | (go_simp; rfl)); intro gA hgA wA hxA hbA; have GA := Lib.hid (show wr.heap.size ≤ gA by rw [hgA]; exact Nat.le_refl _); have BA := Lib.hid hbA; have XA := Lib.hid hxA; have q0 := (blk_cell hxA 0).trans rfl; have q1 := (blk_cell hxA 1).trans rfl; have q2 := (blk_cell hxA 2).trans rfl; have q3 := (blk_cell hxA 3).trans rfl; have q4 := (blk_cell hxA 4).trans rfl; have z0 := blk_frozen hxA 0; have z1 := blk_frozen hxA 1; have z2 := blk_frozen hxA 2; have z3 := blk_frozen hxA 3; have z4 := blk_frozen hxA 4; clear hgA hxA hbA))
   refine gen2 (φ := fun W => Code.wp _ _ _ _ W) (P := fun W => Below wr.heap.size wr W ∧ W.heap[gA]? = some (.cells (sgC x p A1 c1 B1 d1_) 57 (0, 0)))
    ⟨below_set (below_set (below_set (below_set (below_set BA.out GA.out) GA.out) GA.out) GA.out) GA.out, by simpa using blk_set (blk_set (blk_set (blk_set (blk_set XA.out 0 (.int .i64 x.f0)) 1 (.int .i64 x.f1)) 2 (.pointer p)) 3 (.slice A1 x.f3.length c1)) 4 (.slice B1 x.f4.length d1_)⟩ ?_
   clear q0 q1 q2 q3 q4 z0 z1 z2 z3 z4 XA BA GA y0 y1 y2 y3 y4
   rintro V ⟨hbV, hxV⟩
   have IV := Lib.hid (IW.out.next hbV)
   have SPV := Lib.hid (SPX.out.below hbV)
   have LN : Hid (((xs.take kk).map (pieceG q)).length = kk) := Lib.hid (by have := HS.out.len; rw [List.length_map, List.length_take]; omega)
   have HV := Lib.hid hxV
   have IVV := IV
   have QV := Lib.hid (Q5.of hxV (Below.refl _ _))
   clear hbV hxV IW SPX
   refine wp_region_noPanic ?_
   refine wp_region_held_drew (S := fun w' => Q5 V gA x p A1 c1 B1 d1_ w') ?hm_r ?hS_r (fun hHeld => ?_)
   case hm_r => kernel_rfl
   case hS_r => exact Q5.next QV.out (by with_reducible repeat (first | exact Below.refl _ _ | assumption | apply pw_below_drewN | apply Below.drew | apply below_alloc))
   refine wpAnyH_take (i := 0) (oi := ?or0) (v := ?vr0) ?hi_r0 ?k1_r0 ?k2_r0 ?k3_r0 (fun _ _ _ h => h) (Or.inl ⟨?g_r0, ?y_r0⟩) (by assumption) ?r_r0
   case hi_r0 => (simp only [List.getElem?_toArray, List.getElem?_cons_succ, List.getElem?_cons_zero]; rfl)
   case k1_r0 => kernel_rfl
   case k2_r0 => kernel_rfl
   case k3_r0 => kernel_rfl
   case g_r0 => rfl
   case y_r0 => (intro w hSw; (try dsimp only at hSw); first | (go_simp; done) | (go_simp; with_reducible rfl))
   (try simp only [Act.put, List.setIfInBounds_toArray, List.set_cons_zero, List.set_cons_succ])
   refine wpAnyH_take (i := 2) (oi := ?or2) (v := ?vr2) ?hi_r2 ?k1_r2 ?k2_r2 ?k3_r2 (fun _ _ _ h => h) (Or.inl ⟨?g_r2, ?y_r2⟩) (by assumption) ?r_r2
   case hi_r2 => (simp only [List.getElem?_toArray, List.getElem?_cons_succ, List.getElem?_cons_zero]; rfl)
   case k1_r2 => kernel_rfl
   case k2_r2 => kernel_rfl
   case k3_r2 => kernel_rfl
   case g_r2 => rfl
   case y_r2 => (intro w hSw; (try dsimp only at hSw); first | (go_simp; done) | (go_simp; with_reducible rfl))
   (try simp only [Act.put, List.setIfInBounds_toArray, List.set_cons_zero, List.set_cons_succ])
   refine wpAnyH_take (i := 4) (oi := ?or4) (v := ?vr4) ?hi_r4 ?k1_r4 ?k2_r4 ?k3_r4 (fun _ _ _ h => h) (Or.inl ⟨?g_r4, ?y_r4⟩) (by assumption) ?r_r4
   case hi_r4 => (simp only [List.getElem?_toArray, List.getElem?_cons_succ, List.getElem?_cons_zero]; rfl)
   case k1_r4 => kernel_rfl
   case k2_r4 => kernel_rfl
   case k3_r4 => kernel_rfl
   case g_r4 => rfl
   case y_r4 => (intro w hSw; (try dsimp only at hSw); first | (go_simp; done) | (go_simp; with_reducible rfl))
   (try simp only [Act.put, List.setIfInBounds_toArray, List.set_cons_zero, List.set_cons_succ])
   refine wpAnyH_take (i := 5) (oi := ?or5) (v := ?vr5) ?hi_r5 ?k1_r5 ?k2_r5 ?k3_r5 (fun _ _ _ h => h) (Or.inl ⟨?g_r5, ?y_r5⟩) (by assumption) ?r_r5
   case hi_r5 => (simp only [List.getElem?_toArray, List.getElem?_cons_succ, List.getElem?_cons_zero]; rfl)
   case k1_r5 => kernel_rfl
   case k2_r5 => kernel_rfl
   case k3_r5 => kernel_rfl
   case g_r5 => rfl
   case y_r5 => (intro w hSw; (try dsimp only at hSw); first | (go_simp; done) | (go_simp; with_reducible rfl))
   (try simp only [Act.put, List.setIfInBounds_toArray, List.set_cons_zero, List.set_cons_succ])
   have HQ := QV
   refine wpAnyH_ready (rs := [1, 9]) ?k1_rx1 (by simp) ?r_rx1
   case k1_rx1 => kernel_rfl
   refine AllReadyH.cons (o := ?orx1) ?hi_rx1 (fun K hK => ?s_rx1) ?m_rx1
   case hi_rx1 => (simp only [List.getElem?_toArray, List.getElem?_cons_succ, List.getElem?_cons_zero]; rfl)
   case m_rx1 =>
    refine AllReadyH.cons (o := ?orx9) ?hi_rx9 (fun K hK => ?s_rx9) ?m_rx9
    case hi_rx9 => (simp only [List.getElem?_toArray, List.getElem?_cons_succ, List.getElem?_cons_zero]; rfl)
    case m_rx9 => exact AllReadyH.nil
    go_simp
    have HB := Lib.hid (show PB V V.heap.size #[.int .i64 0, .int .i64 0, .int .i64 0, .bool false] (V.alloc (.cells #[.int .i64 0, .int .i64 0, .int .i64 0, .bool false] 42)).drew from ⟨below_step HQ.out.b (by with_reducible repeat (first | exact Below.refl _ _ | assumption | apply pw_below_drewN | apply Below.drew | apply below_alloc)), HQ.out.b.size, blk_drew (blk_newS rfl)⟩)
    replace HQ := Lib.hid (Q5.next (W' := (V.alloc (.cells #[.int .i64 0, .int .i64 0, .int .i64 0, .bool false] 42)).drew) HQ.out (by with_reducible repeat (first | exact Below.refl _ _ | assumption | apply pw_below_drewN | apply Below.drew | apply below_alloc)))
    generalize (V.alloc (.cells #[.int .i64 0, .int .i64 0, .int .i64 0, .bool false] 42)).drew = W8 at HB HQ ⊢
    generalize V.heap.size = g8 at HB ⊢
    refine hK.out _ _ HQ.out (fun hHeld => ?_)
    clear hK K
    (try simp only [Act.put, List.setIfInBounds_toArray, List.set_cons_zero, List.set_cons_succ])
    refine wpAnyH_ready (rs := [1]) ?k1_rB1 (by simp) ?r_rB1
    case k1_rB1 => kernel_rfl
    refine AllReadyH.cons (o := ?orB1) ?hi_rB1 (fun K hK => ?s_rB1) ?m_rB1
    case hi_rB1 => (simp only [List.getElem?_toArray, List.getElem?_cons_succ, List.getElem?_cons_zero]; rfl)
    case m_rB1 => exact AllReadyH.nil
    go_simp
    (go_at_call 31; refine (id_calls x p A1 c1 B1 d1_ _).mono ?_; rintro e wa0 ⟨rfl, hbw⟩)
    replace HQ := Lib.hid (Q5.next HQ.out (by first | (with_reducible exact hbw) | exact below_step (Below.drew (Below.refl _ _)) hbw))
    replace HB := Lib.hid (PB.next HB.out (by first | (with_reducible exact hbw) | exact below_step (Below.drew (Below.refl _ _)) hbw))
    clear hbw
    (try go_wp2_with fail)
    refine hK.out _ _ HQ.out (fun hHeld => ?_)
    clear hK K
    (try simp only [Act.put, List.setIfInBounds_toArray, List.set_cons_zero, List.set_cons_succ])
    refine wpAnyH_ready (rs := [3]) ?k1_rB3 (by simp) ?r_rB3
    case k1_rB3 => kernel_rfl
    refine AllReadyH.cons (o := ?orB3) ?hi_rB3 (fun K hK => ?s_rB3) ?m_rB3
    case hi_rB3 => (simp only [List.getElem?_toArray, List.getElem?_cons_succ, List.getElem?_cons_zero]; rfl)
    case m_rB3 => exact AllReadyH.nil
    go_simp
    (go_at_call 32; refine (label_segcalls x p A1 c1 B1 d1_ _).mono ?_; rintro e wa1 ⟨rfl, hbw⟩)
    replace HQ := Lib.hid (Q5.next HQ.out (by first | (with_reducible exact hbw) | exact below_step (Below.drew (Below.refl _ _)) hbw))
    replace HB := Lib.hid (PB.next HB.out (by first | (with_reducible exact hbw) | exact below_step (Below.drew (Below.refl _ _)) hbw))
    clear hbw
    (try go_wp2_with fail)
    refine hK.out _ _ HQ.out (fun hHeld => ?_)
    clear hK K
    (try simp only [Act.put, List.setIfInBounds_toArray, List.set_cons_zero, List.set_cons_succ])
    refine wpAnyH_ready (rs := [6]) ?k1_rB6 (by simp) ?r_rB6
    case k1_rB6 => kernel_rfl
    refine AllReadyH.cons (o := ?orB6) ?hi_rB6 (fun K hK => ?s_rB6) ?m_rB6
    case hi_rB6 => (simp only [List.getElem?_toArray, List.getElem?_cons_succ, List.getElem?_cons_zero]; rfl)
    case m_rB6 => exact AllReadyH.nil
    go_simp
    (go_at_call 32; refine (label_segcalls x p A1 c1 B1 d1_ _).mono ?_; rintro e wa2 ⟨rfl, hbw⟩)
    replace HQ := Lib.hid (Q5.next HQ.out (by first | (with_reducible exact hbw) | exact below_step (Below.drew (Below.refl _ _)) hbw))
    replace HB := Lib.hid (PB.next HB.out (by first | (with_reducible exact hbw) | exact below_step (Below.drew (Below.refl _ _)) hbw))
    clear hbw
    (try go_wp2_with fail)
    refine hK.out _ _ HQ.out (fun hHeld => ?_)
    clear hK K
    (try simp only [Act.put, List.setIfInBounds_toArray, List.set_cons_zero, List.set_cons_succ])
    refine wpAnyH_ready (rs := [7]) ?k1_rB7 (by simp) ?r_rB7
    case k1_rB7 => kernel_rfl
    refine AllReadyH.cons (o := ?orB7) ?hi_rB7 (fun K hK => ?s_rB7) ?m_rB7
    case hi_rB7 => (simp only [List.getElem?_toArray, List.getElem?_cons_succ, List.getElem?_cons_zero]; rfl)
    case m_rB7 => exact AllReadyH.nil
    go_simp
    (refine (HP.out _ _ (below_step IV.out.b HQ.out.b)).mono ?_; rintro e wa3 ⟨rfl, hbw⟩)
    replace HQ := Lib.hid (Q5.next HQ.out (by first | (with_reducible exact hbw) | exact below_step (Below.drew (Below.refl _ _)) hbw))
    replace HB := Lib.hid (PB.next HB.out (by first | (with_reducible exact hbw) | exact below_step (Below.drew (Below.refl _ _)) hbw))
    clear hbw
    (try go_wp2_with fail)
    refine hK.out _ _ HQ.out (fun hHeld => ?_)
    clear hK K
    (try simp only [Act.put, List.setIfInBounds_toArray, List.set_cons_zero, List.set_cons_succ])
    refine wpAnyH_take (i := 8) (oi := ?orB8) (v := ?vrB8) ?hi_rB8 ?k1_rB8 ?k2_rB8 ?k3_rB8 (fun _ _ _ h => h) (Or.inl ⟨?g_rB8, ?y_rB8⟩) (by assumption) ?r_rB8
    case hi_rB8 => (simp only [List.getElem?_toArray, List.getElem?_cons_succ, List.getElem?_cons_zero]; rfl)
    case k1_rB8 => kernel_rfl
    case k2_rB8 => kernel_rfl
    case k3_rB8 => kernel_rfl
    case g_rB8 => rfl
    case y_rB8 => (intro w hSw; (try dsimp only at hSw); first | (go_simp; done) | (go_simp; with_reducible rfl))
    (try simp only [Act.put, List.setIfInBounds_toArray, List.set_cons_zero, List.set_cons_succ])
    refine wpAnyH_ready (rs := [10]) ?k1_rB10 (by simp) ?r_rB10
    case k1_rB10 => kernel_rfl
    refine AllReadyH.cons (o := ?orB10) ?hi_rB10 (fun K hK => ?s_rB10) ?m_rB10
    case hi_rB10 => (simp only [List.getElem?_toArray, List.getElem?_cons_succ, List.getElem?_cons_zero]; rfl)
    case m_rB10 => exact AllReadyH.nil
    go_simp
    have q0 := (blk_cell HB.out.hx 0).trans rfl
    have q1 := (blk_cell HB.out.hx 1).trans rfl
    have q2 := (blk_cell HB.out.hx 2).trans rfl
    have q3 := (blk_cell HB.out.hx 3).trans rfl
    have z0 := blk_frozen HB.out.hx 0
    have z1 := blk_frozen HB.out.hx 1
    have z2 := blk_frozen HB.out.hx 2
    have z3 := blk_frozen HB.out.hx 3
    go_simp
    have HC := Lib.hid ((((HB.out.set 0 (.int .i64 x.f0)).set 1 (.int .i64 x.f1)).set 2 (.int .i64 0)).set 3 (.bool (q x.f1)))
    refine hK.out _ _ (Q5.of HV.out HC.out.b) (fun hHeld => ?_)
    clear hK K q0 q1 q2 q3 z0 z1 z2 z3 HQ
    (try simp only [Act.put, List.setIfInBounds_toArray, List.set_cons_zero, List.set_cons_succ])
    refine wpAnyH_done (by kernel_rfl) ?_ _
    refine NoPanic.normal ?_
    refine gen2 (φ := fun W => Exit.then _ _ Exit.normal _ W) (P := fun W => PB V g8 #[.int .i64 x.f0, .int .i64 x.f1, .int .i64 0, .bool (q x.f1)] W) HC.out ?_
    rintro U hU
    have I5 := Lib.hid (IV.out.next hU.b)
    have SPU := Lib.hid (SPV.out.below hU.b)
    have HA := Lib.hid (blk_below HV.out hU.b)
    have HU := Lib.hid hU
    have GU := Lib.hid (show U.heap.size ≥ V.heap.size from hU.b.size)
    clear hU HB HC IV SPV
    have a0 := (blk_cell HA.out 0).trans rfl
    have a1 := (blk_cell HA.out 1).trans rfl
    have a2 := (blk_cell HA.out 2).trans rfl
    have a3 := (blk_cell HA.out 3).trans rfl
    have a4 := (blk_cell HA.out 4).trans rfl
    have y0 := (blk_cell HU.out.hx 0).trans rfl
    have y1 := (blk_cell HU.out.hx 1).trans rfl
    have y2 := (blk_cell HU.out.hx 2).trans rfl
    have y3 := (blk_cell HU.out.hx 3).trans rfl
    cases hq : q x.f1 with
    | true =>
     have PX := Lib.hid (show pieceG q x = ⟨x.f0, x.f1, cnt x.f2, true⟩ by unfold pieceG; rw [hq]; rfl)
     rw [hq] at HU y3
     clear hq
     go_wp2_with fail
     (go_at_call 26; refine (rope_segcalls x p A1 c1 B1 d1_ _).mono ?_; rintro e w5 ⟨rfl, hb5⟩)
     have SP5 := Lib.hid (SPU.out.below hb5)
     have I55 := Lib.hid (I5.out.next hb5)
     have H5 := Lib.hid (HU.out.next hb5)
     clear hb5 I5 SPU HU y0 y1 y2 y3 a0 a1 a2 a3 a4 HA
     go_wp2_with fail
     (go_at_call 33; refine (len_rp SP5.out.rp ZX.out.s2).mono ?_; rintro e w6 ⟨rfl, hw6⟩; subst hw6)
     have y0 := (blk_cell H5.out.hx 0).trans rfl
     have y1 := (blk_cell H5.out.hx 1).trans rfl
     have y2 := (blk_cell H5.out.hx 2).trans rfl
     have y3 := (blk_cell H5.out.hx 3).trans rfl
     have z2 := blk_frozen H5.out.hx 2
     go_upto_region 8 with fail
     refine gen2 (φ := fun W => Code.wp _ _ _ _ W) (P := fun W => LoZ w (some ad) c7 xss xs v ((xs.take kk).map (pieceG q)) W ∧ PB V g8 #[.int .i64 x.f0, .int .i64 x.f1, .int .i64 (cnt x.f2), .bool true] W) ⟨?hP1, H5.out.set 2 _⟩ ?_
     case hP1 => exact IVV.out.next (H5.out.set 2 _).b
     clear y0 y1 y2 y3 z2 H5 I55 SP5
     rintro W6 ⟨hi6, hp6⟩
     have I6 := Lib.hid hi6
     have y0 := (blk_cell hp6.hx 0).trans rfl
     have y1 := (blk_cell hp6.hx 1).trans rfl
     have y2 := (blk_cell hp6.hx 2).trans rfl
     have y3 := (blk_cell hp6.hx 3).trans rfl
     clear hi6 hp6
     go_wp2_with (first | ((with_reducible refine gate_builtin (b := .append) rfl ?_); at_builtin; go_must (refine Kd.R_append kP (w0 := w) w.heap.size rfl _ _ 38 42 (.agg #[.int .i64 0, .int .i64 0, .int .i64 0, .bool false]) 32 rfl Tryd.underlying38 infoC42 rfl (by decide) (by decide) v ((xs.take kk).map (pieceG q)) (pieceG q x) [.int .i64 x.f0, .int .i64 x.f1, .int .i64 (cnt x.f2), .bool true] (fun _ => True) (fun _ => False) rfl rfl ?aM (fun _ hk => hk.elim) (fun _ _ => trivial) ?aO ?aB ?aS ?aL ?_); (case aM => rw [PX.out]; exact k42_mkM _ _ _ _); (case aO => exact I6.out.row); (case aB => exact I6.out.b); (case aS => exact I6.out.b.size); (case aL => have := LN.out; omega); intro v8 w8 ho8 hb8 hg8 hat8; have I8 := Lib.hid (show LoZ w (some ad) c7 xss xs v8 ((xs.take kk).map (pieceG q) ++ [pieceG q x]) w8 from ⟨hb8, I6.out.sh.grown I6.out.row hg8 (by decide) (by decide) (by decide) (by decide), ho8⟩); clear ho8 hb8 hg8 hat8))
     go_roundw
     case rel => exact ⟨kk + 1, _, by omega, by go_num, rfl, by rw [TK.out]; exact I8⟩
     case measure =>
      simp only [cntV]
      omega
    | false =>
     have PX := Lib.hid (show pieceG q x = ⟨x.f0, x.f1, 0, false⟩ by unfold pieceG; rw [hq]; rfl)
     rw [hq] at HU y3
     clear hq
     have I6 := I5
     go_wp2_with (first | ((with_reducible refine gate_builtin (b := .append) rfl ?_); at_builtin; go_must (refine Kd.R_append kP (w0 := w) w.heap.size rfl _ _ 38 42 (.agg #[.int .i64 0, .int .i64 0, .int .i64 0, .bool false]) 32 rfl Tryd.underlying38 infoC42 rfl (by decide) (by decide) v ((xs.take kk).map (pieceG q)) (pieceG q x) [.int .i64 x.f0, .int .i64 x.f1, .int .i64 0, .bool false] (fun _ => True) (fun _ => False) rfl rfl ?aM (fun _ hk => hk.elim) (fun _ _ => trivial) ?aO ?aB ?aS ?aL ?_); (case aM => rw [PX.out]; exact k42_mkM _ _ _ _); (case aO => exact I6.out.row); (case aB => exact I6.out.b); (case aS => exact I6.out.b.size); (case aL => have := LN.out; omega); intro v8 w8 ho8 hb8 hg8 hat8; have I8 := Lib.hid (show LoZ w (some ad) c7 xss xs v8 ((xs.take kk).map (pieceG q) ++ [pieceG q x]) w8 from ⟨hb8, I6.out.sh.grown I6.out.row hg8 (by decide) (by decide) (by decide) (by decide), ho8⟩); clear ho8 hb8 hg8 hat8))
     go_roundw
     case rel => exact ⟨kk + 1, _, by omega, by go_num, rfl, by rw [TK.out]; exact I8⟩
     case measure =>
      simp only [cntV]
      omega
   go_simp
   (go_at_call 31; refine (id_calls x p A1 c1 B1 d1_ _).mono ?_; rintro e wa0 ⟨rfl, hbw⟩)
   replace HQ := Lib.hid (Q5.next HQ.out (by first | (with_reducible exact hbw) | exact below_step (Below.drew (Below.refl _ _)) hbw))
   clear hbw
   (try go_wp2_with fail)
   refine hK.out _ _ HQ.out (fun hHeld => ?_)
   clear hK K
   (try simp only [Act.put, List.setIfInBounds_toArray, List.set_cons_zero, List.set_cons_succ])
   refine wpAnyH_ready (rs := [3, 9]) ?k1_rAx3 (by simp) ?r_rAx3
   case k1_rAx3 => kernel_rfl
   refine AllReadyH.cons (o := ?orAx3) ?hi_rAx3 (fun K hK => ?s_rAx3) ?m_rAx3
   case hi_rAx3 => (simp only [List.getElem?_toArray, List.getElem?_cons_succ, List.getElem?_cons_zero]; rfl)
   case m_rAx3 =>
    refine AllReadyH.cons (o := ?orAx9) ?hi_rAx9 (fun K hK => ?s_rAx9) ?m_rAx9
    case hi_rAx9 => (simp only [List.getElem?_toArray, List.getElem?_cons_succ, List.getElem?_cons_zero]; rfl)
    case m_rAx9 => exact AllReadyH.nil
    go_simp
    have HB := Lib.hid (show PB V wa0.heap.size #[.int .i64 0, .int .i64 0, .int .i64 0, .bool false] (wa0.alloc (.cells #[.int .i64 0, .int .i64 0, .int .i64 0, .bool false] 42)) from ⟨below_step HQ.out.b (by with_reducible repeat (first | exact Below.refl _ _ | assumption | apply pw_below_drewN | apply Below.drew | apply below_alloc)), HQ.out.b.size, blk_newS rfl⟩)
    replace HQ := Lib.hid (Q5.next (W' := (wa0.alloc (.cells #[.int .i64 0, .int .i64 0, .int .i64 0, .bool false] 42))) HQ.out (by with_reducible repeat (first | exact Below.refl _ _ | assumption | apply pw_below_drewN | apply Below.drew | apply below_alloc)))
    generalize (wa0.alloc (.cells #[.int .i64 0, .int .i64 0, .int .i64 0, .bool false] 42)) = W8 at HB HQ ⊢
    generalize wa0.heap.size = g8 at HB ⊢
    refine hK.out _ _ HQ.out (fun hHeld => ?_)
    clear hK K
    (try simp only [Act.put, List.setIfInBounds_toArray, List.set_cons_zero, List.set_cons_succ])
    refine wpAnyH_ready (rs := [3]) ?k1_rAB3 (by simp) ?r_rAB3
    case k1_rAB3 => kernel_rfl
    refine AllReadyH.cons (o := ?orAB3) ?hi_rAB3 (fun K hK => ?s_rAB3) ?m_rAB3
    case hi_rAB3 => (simp only [List.getElem?_toArray, List.getElem?_cons_succ, List.getElem?_cons_zero]; rfl)
    case m_rAB3 => exact AllReadyH.nil
    go_simp
    (go_at_call 32; refine (label_segcalls x p A1 c1 B1 d1_ _).mono ?_; rintro e wa1 ⟨rfl, hbw⟩)
    replace HQ := Lib.hid (Q5.next HQ.out (by first | (with_reducible exact hbw) | exact below_step (Below.drew (Below.refl _ _)) hbw))
    replace HB := Lib.hid (PB.next HB.out (by first | (with_reducible exact hbw) | exact below_step (Below.drew (Below.refl _ _)) hbw))
    clear hbw
    (try go_wp2_with fail)
    refine hK.out _ _ HQ.out (fun hHeld => ?_)
    clear hK K
    (try simp only [Act.put, List.setIfInBounds_toArray, List.set_cons_zero, List.set_cons_succ])
    refine wpAnyH_ready (rs := [6]) ?k1_rAB6 (by simp) ?r_rAB6
    case k1_rAB6 => kernel_rfl
    refine AllReadyH.cons (o := ?orAB6) ?hi_rAB6 (fun K hK => ?s_rAB6) ?m_rAB6
    case hi_rAB6 => (simp only [List.getElem?_toArray, List.getElem?_cons_succ, List.getElem?_cons_zero]; rfl)
    case m_rAB6 => exact AllReadyH.nil
    go_simp
    (go_at_call 32; refine (label_segcalls x p A1 c1 B1 d1_ _).mono ?_; rintro e wa2 ⟨rfl, hbw⟩)
    replace HQ := Lib.hid (Q5.next HQ.out (by first | (with_reducible exact hbw) | exact below_step (Below.drew (Below.refl _ _)) hbw))
    replace HB := Lib.hid (PB.next HB.out (by first | (with_reducible exact hbw) | exact below_step (Below.drew (Below.refl _ _)) hbw))
    clear hbw
    (try go_wp2_with fail)
    refine hK.out _ _ HQ.out (fun hHeld => ?_)
    clear hK K
    (try simp only [Act.put, List.setIfInBounds_toArray, List.set_cons_zero, List.set_cons_succ])
    refine wpAnyH_ready (rs := [7]) ?k1_rAB7 (by simp) ?r_rAB7
    case k1_rAB7 => kernel_rfl
    refine AllReadyH.cons (o := ?orAB7) ?hi_rAB7 (fun K hK => ?s_rAB7) ?m_rAB7
    case hi_rAB7 => (simp only [List.getElem?_toArray, List.getElem?_cons_succ, List.getElem?_cons_zero]; rfl)
    case m_rAB7 => exact AllReadyH.nil
    go_simp
    (refine (HP.out _ _ (below_step IV.out.b HQ.out.b)).mono ?_; rintro e wa3 ⟨rfl, hbw⟩)
    replace HQ := Lib.hid (Q5.next HQ.out (by first | (with_reducible exact hbw) | exact below_step (Below.drew (Below.refl _ _)) hbw))
    replace HB := Lib.hid (PB.next HB.out (by first | (with_reducible exact hbw) | exact below_step (Below.drew (Below.refl _ _)) hbw))
    clear hbw
    (try go_wp2_with fail)
    refine hK.out _ _ HQ.out (fun hHeld => ?_)
    clear hK K
    (try simp only [Act.put, List.setIfInBounds_toArray, List.set_cons_zero, List.set_cons_succ])
    refine wpAnyH_take (i := 8) (oi := ?orAB8) (v := ?vrAB8) ?hi_rAB8 ?k1_rAB8 ?k2_rAB8 ?k3_rAB8 (fun _ _ _ h => h) (Or.inl ⟨?g_rAB8, ?y_rAB8⟩) (by assumption) ?r_rAB8
    case hi_rAB8 => (simp only [List.getElem?_toArray, List.getElem?_cons_succ, List.getElem?_cons_zero]; rfl)
    case k1_rAB8 => kernel_rfl
    case k2_rAB8 => kernel_rfl
    case k3_rAB8 => kernel_rfl
    case g_rAB8 => rfl
    case y_rAB8 => (intro w hSw; (try dsimp only at hSw); first | (go_simp; done) | (go_simp; with_reducible rfl))
    (try simp only [Act.put, List.setIfInBounds_toArray, List.set_cons_zero, List.set_cons_succ])
    refine wpAnyH_ready (rs := [10]) ?k1_rAB10 (by simp) ?r_rAB10
    case k1_rAB10 => kernel_rfl
    refine AllReadyH.cons (o := ?orAB10) ?hi_rAB10 (fun K hK => ?s_rAB10) ?m_rAB10
    case hi_rAB10 => (simp only [List.getElem?_toArray, List.getElem?_cons_succ, List.getElem?_cons_zero]; rfl)
    case m_rAB10 => exact AllReadyH.nil
    go_simp
    have q0 := (blk_cell HB.out.hx 0).trans rfl
    have q1 := (blk_cell HB.out.hx 1).trans rfl
    have q2 := (blk_cell HB.out.hx 2).trans rfl
    have q3 := (blk_cell HB.out.hx 3).trans rfl
    have z0 := blk_frozen HB.out.hx 0
    have z1 := blk_frozen HB.out.hx 1
    have z2 := blk_frozen HB.out.hx 2
    have z3 := blk_frozen HB.out.hx 3
    go_simp
    have HC := Lib.hid ((((HB.out.set 0 (.int .i64 x.f0)).set 1 (.int .i64 x.f1)).set 2 (.int .i64 0)).set 3 (.bool (q x.f1)))
    refine hK.out _ _ (Q5.of HV.out HC.out.b) (fun hHeld => ?_)
    clear hK K q0 q1 q2 q3 z0 z1 z2 z3 HQ
    (try simp only [Act.put, List.setIfInBounds_toArray, List.set_cons_zero, List.set_cons_succ])
    refine wpAnyH_done (by kernel_rfl) ?_ _
    refine NoPanic.normal ?_
    refine gen2 (φ := fun W => Exit.then _ _ Exit.normal _ W) (P := fun W => PB V g8 #[.int .i64 x.f0, .int .i64 x.f1, .int .i64 0, .bool (q x.f1)] W) HC.out ?_
    rintro U hU
    have I5 := Lib.hid (IV.out.next hU.b)
    have SPU := Lib.hid (SPV.out.below hU.b)
    have HA := Lib.hid (blk_below HV.out hU.b)
    have HU := Lib.hid hU
    have GU := Lib.hid (show U.heap.size ≥ V.heap.size from hU.b.size)
    clear hU HB HC IV SPV
    have a0 := (blk_cell HA.out 0).trans rfl
    have a1 := (blk_cell HA.out 1).trans rfl
    have a2 := (blk_cell HA.out 2).trans rfl
    have a3 := (blk_cell HA.out 3).trans rfl
    have a4 := (blk_cell HA.out 4).trans rfl
    have y0 := (blk_cell HU.out.hx 0).trans rfl
    have y1 := (blk_cell HU.out.hx 1).trans rfl
    have y2 := (blk_cell HU.out.hx 2).trans rfl
    have y3 := (blk_cell HU.out.hx 3).trans rfl
    cases hq : q x.f1 with
    | true =>
     have PX := Lib.hid (show pieceG q x = ⟨x.f0, x.f1, cnt x.f2, true⟩ by unfold pieceG; rw [hq]; rfl)
     rw [hq] at HU y3
     clear hq
     go_wp2_with fail
     (go_at_call 26; refine (rope_segcalls x p A1 c1 B1 d1_ _).mono ?_; rintro e w5 ⟨rfl, hb5⟩)
     have SP5 := Lib.hid (SPU.out.below hb5)
     have I55 := Lib.hid (I5.out.next hb5)
     have H5 := Lib.hid (HU.out.next hb5)
     clear hb5 I5 SPU HU y0 y1 y2 y3 a0 a1 a2 a3 a4 HA
     go_wp2_with fail
     (go_at_call 33; refine (len_rp SP5.out.rp ZX.out.s2).mono ?_; rintro e w6 ⟨rfl, hw6⟩; subst hw6)
     have y0 := (blk_cell H5.out.hx 0).trans rfl
     have y1 := (blk_cell H5.out.hx 1).trans rfl
     have y2 := (blk_cell H5.out.hx 2).trans rfl
     have y3 := (blk_cell H5.out.hx 3).trans rfl
     have z2 := blk_frozen H5.out.hx 2
     go_upto_region 8 with fail
     refine gen2 (φ := fun W => Code.wp _ _ _ _ W) (P := fun W => LoZ w (some ad) c7 xss xs v ((xs.take kk).map (pieceG q)) W ∧ PB V g8 #[.int .i64 x.f0, .int .i64 x.f1, .int .i64 (cnt x.f2), .bool true] W) ⟨?hP1, H5.out.set 2 _⟩ ?_
     case hP1 => exact IVV.out.next (H5.out.set 2 _).b
     clear y0 y1 y2 y3 z2 H5 I55 SP5
     rintro W6 ⟨hi6, hp6⟩
     have I6 := Lib.hid hi6
     have y0 := (blk_cell hp6.hx 0).trans rfl
     have y1 := (blk_cell hp6.hx 1).trans rfl
     have y2 := (blk_cell hp6.hx 2).trans rfl
     have y3 := (blk_cell hp6.hx 3).trans rfl
     clear hi6 hp6
     go_wp2_with (first | ((with_reducible refine gate_builtin (b := .append) rfl ?_); at_builtin; go_must (refine Kd.R_append kP (w0 := w) w.heap.size rfl _ _ 38 42 (.agg #[.int .i64 0, .int .i64 0, .int .i64 0, .bool false]) 32 rfl Tryd.underlying38 infoC42 rfl (by decide) (by decide) v ((xs.take kk).map (pieceG q)) (pieceG q x) [.int .i64 x.f0, .int .i64 x.f1, .int .i64 (cnt x.f2), .bool true] (fun _ => True) (fun _ => False) rfl rfl ?aM (fun _ hk => hk.elim) (fun _ _ => trivial) ?aO ?aB ?aS ?aL ?_); (case aM => rw [PX.out]; exact k42_mkM _ _ _ _); (case aO => exact I6.out.row); (case aB => exact I6.out.b); (case aS => exact I6.out.b.size); (case aL => have := LN.out; omega); intro v8 w8 ho8 hb8 hg8 hat8; have I8 := Lib.hid (show LoZ w (some ad) c7 xss xs v8 ((xs.take kk).map (pieceG q) ++ [pieceG q x]) w8 from ⟨hb8, I6.out.sh.grown I6.out.row hg8 (by decide) (by decide) (by decide) (by decide), ho8⟩); clear ho8 hb8 hg8 hat8))
     go_roundw
     case rel => exact ⟨kk + 1, _, by omega, by go_num, rfl, by rw [TK.out]; exact I8⟩
     case measure =>
      simp only [cntV]
      omega
    | false =>
     have PX := Lib.hid (show pieceG q x = ⟨x.f0, x.f1, 0, false⟩ by unfold pieceG; rw [hq]; rfl)
     rw [hq] at HU y3
     clear hq
     have I6 := I5
     go_wp2_with (first | ((with_reducible refine gate_builtin (b := .append) rfl ?_); at_builtin; go_must (refine Kd.R_append kP (w0 := w) w.heap.size rfl _ _ 38 42 (.agg #[.int .i64 0, .int .i64 0, .int .i64 0, .bool false]) 32 rfl Tryd.underlying38 infoC42 rfl (by decide) (by decide) v ((xs.take kk).map (pieceG q)) (pieceG q x) [.int .i64 x.f0, .int .i64 x.f1, .int .i64 0, .bool false] (fun _ => True) (fun _ => False) rfl rfl ?aM (fun _ hk => hk.elim) (fun _ _ => trivial) ?aO ?aB ?aS ?aL ?_); (case aM => rw [PX.out]; exact k42_mkM _ _ _ _); (case aO => exact I6.out.row); (case aB => exact I6.out.b); (case aS => exact I6.out.b.size); (case aL => have := LN.out; omega); intro v8 w8 ho8 hb8 hg8 hat8; have I8 := Lib.hid (show LoZ w (some ad) c7 xss xs v8 ((xs.take kk).map (pieceG q) ++ [pieceG q x]) w8 from ⟨hb8, I6.out.sh.grown I6.out.row hg8 (by decide) (by decide) (by decide) (by decide), ho8⟩); clear ho8 hb8 hg8 hat8))
     go_roundw
     case rel => exact ⟨kk + 1, _, by omega, by go_num, rfl, by rw [TK.out]; exact I8⟩
     case measure =>
      simp only [cntV]
      omega
   go_simp
   (go_at_call 32; refine (label_segcalls x p A1 c1 B1 d1_ _).mono ?_; rintro e wa1 ⟨rfl, hbw⟩)
   replace HQ := Lib.hid (Q5.next HQ.out (by first | (with_reducible exact hbw) | exact below_step (Below.drew (Below.refl _ _)) hbw))
   clear hbw
   (try go_wp2_with fail)
   refine hK.out _ _ HQ.out (fun hHeld => ?_)
   clear hK K
   (try simp only [Act.put, List.setIfInBounds_toArray, List.set_cons_zero, List.set_cons_succ])
   refine wpAnyH_ready (rs := [6, 9]) ?k1_rAAx6 (by simp) ?r_rAAx6
   case k1_rAAx6 => kernel_rfl
   refine AllReadyH.cons (o := ?orAAx6) ?hi_rAAx6 (fun K hK => ?s_rAAx6) ?m_rAAx6
   case hi_rAAx6 => (simp only [List.getElem?_toArray, List.getElem?_cons_succ, List.getElem?_cons_zero]; rfl)
   case m_rAAx6 =>
    refine AllReadyH.cons (o := ?orAAx9) ?hi_rAAx9 (fun K hK => ?s_rAAx9) ?m_rAAx9
    case hi_rAAx9 => (simp only [List.getElem?_toArray, List.getElem?_cons_succ, List.getElem?_cons_zero]; rfl)
    case m_rAAx9 => exact AllReadyH.nil
    go_simp
    have HB := Lib.hid (show PB V wa1.heap.size #[.int .i64 0, .int .i64 0, .int .i64 0, .bool false] (wa1.alloc (.cells #[.int .i64 0, .int .i64 0, .int .i64 0, .bool false] 42)) from ⟨below_step HQ.out.b (by with_reducible repeat (first | exact Below.refl _ _ | assumption | apply pw_below_drewN | apply Below.drew | apply below_alloc)), HQ.out.b.size, blk_newS rfl⟩)
    replace HQ := Lib.hid (Q5.next (W' := (wa1.alloc (.cells #[.int .i64 0, .int .i64 0, .int .i64 0, .bool false] 42))) HQ.out (by with_reducible repeat (first | exact Below.refl _ _ | assumption | apply pw_below_drewN | apply Below.drew | apply below_alloc)))
    generalize (wa1.alloc (.cells #[.int .i64 0, .int .i64 0, .int .i64 0, .bool false] 42)) = W8 at HB HQ ⊢
    generalize wa1.heap.size = g8 at HB ⊢
    refine hK.out _ _ HQ.out (fun hHeld => ?_)
    clear hK K
    (try simp only [Act.put, List.setIfInBounds_toArray, List.set_cons_zero, List.set_cons_succ])
    refine wpAnyH_ready (rs := [6]) ?k1_rAAB6 (by simp) ?r_rAAB6
    case k1_rAAB6 => kernel_rfl
    refine AllReadyH.cons (o := ?orAAB6) ?hi_rAAB6 (fun K hK => ?s_rAAB6) ?m_rAAB6
    case hi_rAAB6 => (simp only [List.getElem?_toArray, List.getElem?_cons_succ, List.getElem?_cons_zero]; rfl)
    case m_rAAB6 => exact AllReadyH.nil
    go_simp
    (go_at_call 32; refine (label_segcalls x p A1 c1 B1 d1_ _).mono ?_; rintro e wa2 ⟨rfl, hbw⟩)
    replace HQ := Lib.hid (Q5.next HQ.out (by first | (with_reducible exact hbw) | exact below_step (Below.drew (Below.refl _ _)) hbw))
    replace HB := Lib.hid (PB.next HB.out (by first | (with_reducible exact hbw) | exact below_step (Below.drew (Below.refl _ _)) hbw))
    clear hbw
    (try go_wp2_with fail)
    refine hK.out _ _ HQ.out (fun hHeld => ?_)
    clear hK K
    (try simp only [Act.put, List.setIfInBounds_toArray, List.set_cons_zero, List.set_cons_succ])
    refine wpAnyH_ready (rs := [7]) ?k1_rAAB7 (by simp) ?r_rAAB7
    case k1_rAAB7 => kernel_rfl
    refine AllReadyH.cons (o := ?orAAB7) ?hi_rAAB7 (fun K hK => ?s_rAAB7) ?m_rAAB7
    case hi_rAAB7 => (simp only [List.getElem?_toArray, List.getElem?_cons_succ, List.getElem?_cons_zero]; rfl)
    case m_rAAB7 => exact AllReadyH.nil
    go_simp
    (refine (HP.out _ _ (below_step IV.out.b HQ.out.b)).mono ?_; rintro e wa3 ⟨rfl, hbw⟩)
    replace HQ := Lib.hid (Q5.next HQ.out (by first | (with_reducible exact hbw) | exact below_step (Below.drew (Below.refl _ _)) hbw))
    replace HB := Lib.hid (PB.next HB.out (by first | (with_reducible exact hbw) | exact below_step (Below.drew (Below.refl _ _)) hbw))
    clear hbw
    (try go_wp2_with fail)
    refine hK.out _ _ HQ.out (fun hHeld => ?_)
    clear hK K
    (try simp only [Act.put, List.setIfInBounds_toArray, List.set_cons_zero, List.set_cons_succ])
    refine wpAnyH_take (i := 8) (oi := ?orAAB8) (v := ?vrAAB8) ?hi_rAAB8 ?k1_rAAB8 ?k2_rAAB8 ?k3_rAAB8 (fun _ _ _ h => h) (Or.inl ⟨?g_rAAB8, ?y_rAAB8⟩) (by assumption) ?r_rAAB8
    case hi_rAAB8 => (simp only [List.getElem?_toArray, List.getElem?_cons_succ, List.getElem?_cons_zero]; rfl)
    case k1_rAAB8 => kernel_rfl
    case k2_rAAB8 => kernel_rfl
    case k3_rAAB8 => kernel_rfl
    case g_rAAB8 => rfl
    case y_rAAB8 => (intro w hSw; (try dsimp only at hSw); first | (go_simp; done) | (go_simp; with_reducible rfl))
    (try simp only [Act.put, List.setIfInBounds_toArray, List.set_cons_zero, List.set_cons_succ])
    refine wpAnyH_ready (rs := [10]) ?k1_rAAB10 (by simp) ?r_rAAB10
    case k1_rAAB10 => kernel_rfl
    refine AllReadyH.cons (o := ?orAAB10) ?hi_rAAB10 (fun K hK => ?s_rAAB10) ?m_rAAB10
    case hi_rAAB10 => (simp only [List.getElem?_toArray, List.getElem?_cons_succ, List.getElem?_cons_zero]; rfl)
    case m_rAAB10 => exact AllReadyH.nil
    go_simp
    have q0 := (blk_cell HB.out.hx 0).trans rfl
    have q1 := (blk_cell HB.out.hx 1).trans rfl
    have q2 := (blk_cell HB.out.hx 2).trans rfl
    have q3 := (blk_cell HB.out.hx 3).trans rfl
    have z0 := blk_frozen HB.out.hx 0
    have z1 := blk_frozen HB.out.hx 1
    have z2 := blk_frozen HB.out.hx 2
    have z3 := blk_frozen HB.out.hx 3
    go_simp
    have HC := Lib.hid ((((HB.out.set 0 (.int .i64 x.f0)).set 1 (.int .i64 x.f1)).set 2 (.int .i64 0)).set 3 (.bool (q x.f1)))
    refine hK.out _ _ (Q5.of HV.out HC.out.b) (fun hHeld => ?_)
    clear hK K q0 q1 q2 q3 z0 z1 z2 z3 HQ
    (try simp only [Act.put, List.setIfInBounds_toArray, List.set_cons_zero, List.set_cons_succ])
    refine wpAnyH_done (by kernel_rfl) ?_ _
    refine NoPanic.normal ?_
    refine gen2 (φ := fun W => Exit.then _ _ Exit.normal _ W) (P := fun W => PB V g8 #[.int .i64 x.f0, .int .i64 x.f1, .int .i64 0, .bool (q x.f1)] W) HC.out ?_
    rintro U hU
    have I5 := Lib.hid (IV.out.next hU.b)
    have SPU := Lib.hid (SPV.out.below hU.b)
    have HA := Lib.hid (blk_below HV.out hU.b)
    have HU := Lib.hid hU
    have GU := Lib.hid (show U.heap.size ≥ V.heap.size from hU.b.size)
    clear hU HB HC IV SPV
    have a0 := (blk_cell HA.out 0).trans rfl
    have a1 := (blk_cell HA.out 1).trans rfl
    have a2 := (blk_cell HA.out 2).trans rfl
    have a3 := (blk_cell HA.out 3).trans rfl
    have a4 := (blk_cell HA.out 4).trans rfl
    have y0 := (blk_cell HU.out.hx 0).trans rfl
    have y1 := (blk_cell HU.out.hx 1).trans rfl
    have y2 := (blk_cell HU.out.hx 2).trans rfl
    have y3 := (blk_cell HU.out.hx 3).trans rfl
    cases hq : q x.f1 with
    | true =>
     have PX := Lib.hid (show pieceG q x = ⟨x.f0, x.f1, cnt x.f2, true⟩ by unfold pieceG; rw [hq]; rfl)
     rw [hq] at HU y3
     clear hq
     go_wp2_with fail
     (go_at_call 26; refine (rope_segcalls x p A1 c1 B1 d1_ _).mono ?_; rintro e w5 ⟨rfl, hb5⟩)
     have SP5 := Lib.hid (SPU.out.below hb5)
     have I55 := Lib.hid (I5.out.next hb5)
     have H5 := Lib.hid (HU.out.next hb5)
     clear hb5 I5 SPU HU y0 y1 y2 y3 a0 a1 a2 a3 a4 HA
     go_wp2_with fail
     (go_at_call 33; refine (len_rp SP5.out.rp ZX.out.s2).mono ?_; rintro e w6 ⟨rfl, hw6⟩; subst hw6)
     have y0 := (blk_cell H5.out.hx 0).trans rfl
     have y1 := (blk_cell H5.out.hx 1).trans rfl
     have y2 := (blk_cell H5.out.hx 2).trans rfl
     have y3 := (blk_cell H5.out.hx 3).trans rfl
     have z2 := blk_frozen H5.out.hx 2
     go_upto_region 8 with fail
     refine gen2 (φ := fun W => Code.wp _ _ _ _ W) (P := fun W => LoZ w (some ad) c7 xss xs v ((xs.take kk).map (pieceG q)) W ∧ PB V g8 #[.int .i64 x.f0, .int .i64 x.f1, .int .i64 (cnt x.f2), .bool true] W) ⟨?hP1, H5.out.set 2 _⟩ ?_
     case hP1 => exact IVV.out.next (H5.out.set 2 _).b
     clear y0 y1 y2 y3 z2 H5 I55 SP5
     rintro W6 ⟨hi6, hp6⟩
     have I6 := Lib.hid hi6
     have y0 := (blk_cell hp6.hx 0).trans rfl
     have y1 := (blk_cell hp6.hx 1).trans rfl
     have y2 := (blk_cell hp6.hx 2).trans rfl
     have y3 := (blk_cell hp6.hx 3).trans rfl
     clear hi6 hp6
     go_wp2_with (first | ((with_reducible refine gate_builtin (b := .append) rfl ?_); at_builtin; go_must (refine Kd.R_append kP (w0 := w) w.heap.size rfl _ _ 38 42 (.agg #[.int .i64 0, .int .i64 0, .int .i64 0, .bool false]) 32 rfl Tryd.underlying38 infoC42 rfl (by decide) (by decide) v ((xs.take kk).map (pieceG q)) (pieceG q x) [.int .i64 x.f0, .int .i64 x.f1, .int .i64 (cnt x.f2), .bool true] (fun _ => True) (fun _ => False) rfl rfl ?aM (fun _ hk => hk.elim) (fun _ _ => trivial) ?aO ?aB ?aS ?aL ?_); (case aM => rw [PX.out]; exact k42_mkM _ _ _ _); (case aO => exact I6.out.row); (case aB => exact I6.out.b); (case aS => exact I6.out.b.size); (case aL => have := LN.out; omega); intro v8 w8 ho8 hb8 hg8 hat8; have I8 := Lib.hid (show LoZ w (some ad) c7 xss xs v8 ((xs.take kk).map (pieceG q) ++ [pieceG q x]) w8 from ⟨hb8, I6.out.sh.grown I6.out.row hg8 (by decide) (by decide) (by decide) (by decide), ho8⟩); clear ho8 hb8 hg8 hat8))
     go_roundw
     case rel => exact ⟨kk + 1, _, by omega, by go_num, rfl, by rw [TK.out]; exact I8⟩
     case measure =>
      simp only [cntV]
      omega
    | false =>
     have PX := Lib.hid (show pieceG q x = ⟨x.f0, x.f1, 0, false⟩ by unfold pieceG; rw [hq]; rfl)
     rw [hq] at HU y3
     clear hq
     have I6 := I5
     go_wp2_with (first | ((with_reducible refine gate_builtin (b := .append) rfl ?_); at_builtin; go_must (refine Kd.R_append kP (w0 := w) w.heap.size rfl _ _ 38 42 (.agg #[.int .i64 0, .int .i64 0, .int .i64 0, .bool false]) 32 rfl Tryd.underlying38 infoC42 rfl (by decide) (by decide) v ((xs.take kk).map (pieceG q)) (pieceG q x) [.int .i64 x.f0, .int .i64 x.f1, .int .i64 0, .bool false] (fun _ => True) (fun _ => False) rfl rfl ?aM (fun _ hk => hk.elim) (fun _ _ => trivial) ?aO ?aB ?aS ?aL ?_); (case aM => rw [PX.out]; exact k42_mkM _ _ _ _); (case aO => exact I6.out.row); (case aB => exact I6.out.b); (case aS => exact I6.out.b.size); (case aL => have := LN.out; omega); intro v8 w8 ho8 hb8 hg8 hat8; have I8 := Lib.hid (show LoZ w (some ad) c7 xss xs v8 ((xs.take kk).map (pieceG q) ++ [pieceG q x]) w8 from ⟨hb8, I6.out.sh.grown I6.out.row hg8 (by decide) (by decide) (by decide) (by decide), ho8⟩); clear ho8 hb8 hg8 hat8))
     go_roundw
     case rel => exact ⟨kk + 1, _, by omega, by go_num, rfl, by rw [TK.out]; exact I8⟩
     case measure =>
      simp only [cntV]
      omega
   go_simp
   (go_at_call 32; refine (label_segcalls x p A1 c1 B1 d1_ _).mono ?_; rintro e wa2 ⟨rfl, hbw⟩)
   replace HQ := Lib.hid (Q5.next HQ.out (by first | (with_reducible exact hbw) | exact below_step (Below.drew (Below.refl _ _)) hbw))
   clear hbw
   (try go_wp2_with fail)
   refine hK.out _ _ HQ.out (fun hHeld => ?_)
   clear hK K
   (try simp only [Act.put, List.setIfInBounds_toArray, List.set_cons_zero, List.set_cons_succ])
   refine wpAnyH_ready (rs := [7, 9]) ?k1_rAAAx7 (by simp) ?r_rAAAx7
   case k1_rAAAx7 => kernel_rfl
   refine AllReadyH.cons (o := ?orAAAx7) ?hi_rAAAx7 (fun K hK => ?s_rAAAx7) ?m_rAAAx7
   case hi_rAAAx7 => (simp only [List.getElem?_toArray, List.getElem?_cons_succ, List.getElem?_cons_zero]; rfl)
   case m_rAAAx7 =>
    refine AllReadyH.cons (o := ?orAAAx9) ?hi_rAAAx9 (fun K hK => ?s_rAAAx9) ?m_rAAAx9
    case hi_rAAAx9 => (simp only [List.getElem?_toArray, List.getElem?_cons_succ, List.getElem?_cons_zero]; rfl)
    case m_rAAAx9 => exact AllReadyH.nil
    go_simp
    have HB := Lib.hid (show PB V wa2.heap.size #[.int .i64 0, .int .i64 0, .int .i64 0, .bool false] (wa2.alloc (.cells #[.int .i64 0, .int .i64 0, .int .i64 0, .bool false] 42)) from ⟨below_step HQ.out.b (by with_reducible repeat (first | exact Below.refl _ _ | assumption | apply pw_below_drewN | apply Below.drew | apply below_alloc)), HQ.out.b.size, blk_newS rfl⟩)
    replace HQ := Lib.hid (Q5.next (W' := (wa2.alloc (.cells #[.int .i64 0, .int .i64 0, .int .i64 0, .bool false] 42))) HQ.out (by with_reducible repeat (first | exact Below.refl _ _ | assumption | apply pw_below_drewN | apply Below.drew | apply below_alloc)))
    generalize (wa2.alloc (.cells #[.int .i64 0, .int .i64 0, .int .i64 0, .bool false] 42)) = W8 at HB HQ ⊢
    generalize wa2.heap.size = g8 at HB ⊢
    refine hK.out _ _ HQ.out (fun hHeld => ?_)
    clear hK K
    (try simp only [Act.put, List.setIfInBounds_toArray, List.set_cons_zero, List.set_cons_succ])
    refine wpAnyH_ready (rs := [7]) ?k1_rAAAB7 (by simp) ?r_rAAAB7
    case k1_rAAAB7 => kernel_rfl
    refine AllReadyH.cons (o := ?orAAAB7) ?hi_rAAAB7 (fun K hK => ?s_rAAAB7) ?m_rAAAB7
    case hi_rAAAB7 => (simp only [List.getElem?_toArray, List.getElem?_cons_succ, List.getElem?_cons_zero]; rfl)
    case m_rAAAB7 => exact AllReadyH.nil
    go_simp
    (refine (HP.out _ _ (below_step IV.out.b HQ.out.b)).mono ?_; rintro e wa3 ⟨rfl, hbw⟩)
    replace HQ := Lib.hid (Q5.next HQ.out (by first | (with_reducible exact hbw) | exact below_step (Below.drew (Below.refl _ _)) hbw))
    replace HB := Lib.hid (PB.next HB.out (by first | (with_reducible exact hbw) | exact below_step (Below.drew (Below.refl _ _)) hbw))
    clear hbw
    (try go_wp2_with fail)
    refine hK.out _ _ HQ.out (fun hHeld => ?_)
    clear hK K
    (try simp only [Act.put, List.setIfInBounds_toArray, List.set_cons_zero, List.set_cons_succ])
    refine wpAnyH_take (i := 8) (oi := ?orAAAB8) (v := ?vrAAAB8) ?hi_rAAAB8 ?k1_rAAAB8 ?k2_rAAAB8 ?k3_rAAAB8 (fun _ _ _ h => h) (Or.inl ⟨?g_rAAAB8, ?y_rAAAB8⟩) (by assumption) ?r_rAAAB8
    case hi_rAAAB8 => (simp only [List.getElem?_toArray, List.getElem?_cons_succ, List.getElem?_cons_zero]; rfl)
    case k1_rAAAB8 => kernel_rfl
    case k2_rAAAB8 => kernel_rfl
    case k3_rAAAB8 => kernel_rfl
    case g_rAAAB8 => rfl
    case y_rAAAB8 => (intro w hSw; (try dsimp only at hSw); first | (go_simp; done) | (go_simp; with_reducible rfl))
    (try simp only [Act.put, List.setIfInBounds_toArray, List.set_cons_zero, List.set_cons_succ])
    refine wpAnyH_ready (rs := [10]) ?k1_rAAAB10 (by simp) ?r_rAAAB10
    case k1_rAAAB10 => kernel_rfl
    refine AllReadyH.cons (o := ?orAAAB10) ?hi_rAAAB10 (fun K hK => ?s_rAAAB10) ?m_rAAAB10
    case hi_rAAAB10 => (simp only [List.getElem?_toArray, List.getElem?_cons_succ, List.getElem?_cons_zero]; rfl)
    case m_rAAAB10 => exact AllReadyH.nil
    go_simp
    have q0 := (blk_cell HB.out.hx 0).trans rfl
    have q1 := (blk_cell HB.out.hx 1).trans rfl
    have q2 := (blk_cell HB.out.hx 2).trans rfl
    have q3 := (blk_cell HB.out.hx 3).trans rfl
    have z0 := blk_frozen HB.out.hx 0
    have z1 := blk_frozen HB.out.hx 1
    have z2 := blk_frozen HB.out.hx 2
    have z3 := blk_frozen HB.out.hx 3
    go_simp
    have HC := Lib.hid ((((HB.out.set 0 (.int .i64 x.f0)).set 1 (.int .i64 x.f1)).set 2 (.int .i64 0)).set 3 (.bool (q x.f1)))
    refine hK.out _ _ (Q5.of HV.out HC.out.b) (fun hHeld => ?_)
    clear hK K q0 q1 q2 q3 z0 z1 z2 z3 HQ
    (try simp only [Act.put, List.setIfInBounds_toArray, List.set_cons_zero, List.set_cons_succ])
    refine wpAnyH_done (by kernel_rfl) ?_ _
    refine NoPanic.normal ?_
    refine gen2 (φ := fun W => Exit.then _ _ Exit.normal _ W) (P := fun W => PB V g8 #[.int .i64 x.f0, .int .i64 x.f1, .int .i64 0, .bool (q x.f1)] W) HC.out ?_
    rintro U hU
    have I5 := Lib.hid (IV.out.next hU.b)
    have SPU := Lib.hid (SPV.out.below hU.b)
    have HA := Lib.hid (blk_below HV.out hU.b)
    have HU := Lib.hid hU
    have GU := Lib.hid (show U.heap.size ≥ V.heap.size from hU.b.size)
    clear hU HB HC IV SPV
    have a0 := (blk_cell HA.out 0).trans rfl
    have a1 := (blk_cell HA.out 1).trans rfl
    have a2 := (blk_cell HA.out 2).trans rfl
    have a3 := (blk_cell HA.out 3).trans rfl
    have a4 := (blk_cell HA.out 4).trans rfl
    have y0 := (blk_cell HU.out.hx 0).trans rfl
    have y1 := (blk_cell HU.out.hx 1).trans rfl
    have y2 := (blk_cell HU.out.hx 2).trans rfl
    have y3 := (blk_cell HU.out.hx 3).trans rfl
    cases hq : q x.f1 with
    | true =>
     have PX := Lib.hid (show pieceG q x = ⟨x.f0, x.f1, cnt x.f2, true⟩ by unfold pieceG; rw [hq]; rfl)
     rw [hq] at HU y3
     clear hq
     go_wp2_with fail
     (go_at_call 26; refine (rope_segcalls x p A1 c1 B1 d1_ _).mono ?_; rintro e w5 ⟨rfl, hb5⟩)
     have SP5 := Lib.hid (SPU.out.below hb5)
     have I55 := Lib.hid (I5.out.next hb5)
     have H5 := Lib.hid (HU.out.next hb5)
     clear hb5 I5 SPU HU y0 y1 y2 y3 a0 a1 a2 a3 a4 HA
     go_wp2_with fail
     (go_at_call 33; refine (len_rp SP5.out.rp ZX.out.s2).mono ?_; rintro e w6 ⟨rfl, hw6⟩; subst hw6)
     have y0 := (blk_cell H5.out.hx 0).trans rfl
     have y1 := (blk_cell H5.out.hx 1).trans rfl
     have y2 := (blk_cell H5.out.hx 2).trans rfl
     have y3 := (blk_cell H5.out.hx 3).trans rfl
     have z2 := blk_frozen H5.out.hx 2
     go_upto_region 8 with fail
     refine gen2 (φ := fun W => Code.wp _ _ _ _ W) (P := fun W => LoZ w (some ad) c7 xss xs v ((xs.take kk).map (pieceG q)) W ∧ PB V g8 #[.int .i64 x.f0, .int .i64 x.f1, .int .i64 (cnt x.f2), .bool true] W) ⟨?hP1, H5.out.set 2 _⟩ ?_
     case hP1 => exact IVV.out.next (H5.out.set 2 _).b
     clear y0 y1 y2 y3 z2 H5 I55 SP5
     rintro W6 ⟨hi6, hp6⟩
     have I6 := Lib.hid hi6
     have y0 := (blk_cell hp6.hx 0).trans rfl
     have y1 := (blk_cell hp6.hx 1).trans rfl
     have y2 := (blk_cell hp6.hx 2).trans rfl
     have y3 := (blk_cell hp6.hx 3).trans rfl
     clear hi6 hp6
     go_wp2_with (first | ((with_reducible refine gate_builtin (b := .append) rfl ?_); at_builtin; go_must (refine Kd.R_append kP (w0 := w) w.heap.size rfl _ _ 38 42 (.agg #[.int .i64 0, .int .i64 0, .int .i64 0, .bool false]) 32 rfl Tryd.underlying38 infoC42 rfl (by decide) (by decide) v ((xs.take kk).map (pieceG q)) (pieceG q x) [.int .i64 x.f0, .int .i64 x.f1, .int .i64 (cnt x.f2), .bool true] (fun _ => True) (fun _ => False) rfl rfl ?aM (fun _ hk => hk.elim) (fun _ _ => trivial) ?aO ?aB ?aS ?aL ?_); (case aM => rw [PX.out]; exact k42_mkM _ _ _ _); (case aO => exact I6.out.row); (case aB => exact I6.out.b); (case aS => exact I6.out.b.size); (case aL => have := LN.out; omega); intro v8 w8 ho8 hb8 hg8 hat8; have I8 := Lib.hid (show LoZ w (some ad) c7 xss xs v8 ((xs.take kk).map (pieceG q) ++ [pieceG q x]) w8 from ⟨hb8, I6.out.sh.grown I6.out.row hg8 (by decide) (by decide) (by decide) (by decide), ho8⟩); clear ho8 hb8 hg8 hat8))
     go_roundw
     case rel => exact ⟨kk + 1, _, by omega, by go_num, rfl, by rw [TK.out]; exact I8⟩
     case measure =>
      simp only [cntV]
      omega
    | false =>
     have PX := Lib.hid (show pieceG q x = ⟨x.f0, x.f1, 0, false⟩ by unfold pieceG; rw [hq]; rfl)
     rw [hq] at HU y3
     clear hq
     have I6 := I5
     go_wp2_with (first | ((with_reducible refine gate_builtin (b := .append) rfl ?_); at_builtin; go_must (refine Kd.R_append kP (w0 := w) w.heap.size rfl _ _ 38 42 (.agg #[.int .i64 0, .int .i64 0, .int .i64 0, .bool false]) 32 rfl Tryd.underlying38 infoC42 rfl (by decide) (by decide) v ((xs.take kk).map (pieceG q)) (pieceG q x) [.int .i64 x.f0, .int .i64 x.f1, .int .i64 0, .bool false] (fun _ => True) (fun _ => False) rfl rfl ?aM (fun _ hk => hk.elim) (fun _ _ => trivial) ?aO ?aB ?aS ?aL ?_); (case aM => rw [PX.out]; exact k42_mkM _ _ _ _); (case aO => exact I6.out.row); (case aB => exact I6.out.b); (case aS => exact I6.out.b.size); (case aL => have := LN.out; omega); intro v8 w8 ho8 hb8 hg8 hat8; have I8 := Lib.hid (show LoZ w (some ad) c7 xss xs v8 ((xs.take kk).map (pieceG q) ++ [pieceG q x]) w8 from ⟨hb8, I6.out.sh.grown I6.out.row hg8 (by decide) (by decide) (by decide) (by decide), ho8⟩); clear ho8 hb8 hg8 hat8))
     go_roundw
     case rel => exact ⟨kk + 1, _, by omega, by go_num, rfl, by rw [TK.out]; exact I8⟩
     case measure =>
      simp only [cntV]
      omega
   go_simp
   (refine (HP.out _ _ (below_step IV.out.b HQ.out.b)).mono ?_; rintro e wa3 ⟨rfl, hbw⟩)
   replace HQ := Lib.hid (Q5.next HQ.out (by first | (with_reducible exact hbw) | exact below_step (Below.drew (Below.refl _ _)) hbw))
   clear hbw
   (try go_wp2_with fail)
   refine hK.out _ _ HQ.out (fun hHeld => ?_)
   clear hK K
   (try simp only [Act.put, List.setIfInBounds_toArray, List.set_cons_zero, List.set_cons_succ])
   refine wpAnyH_take (i := 8) (oi := ?orAAAA8) (v := ?vrAAAA8) ?hi_rAAAA8 ?k1_rAAAA8 ?k2_rAAAA8 ?k3_rAAAA8 (fun _ _ _ h => h) (Or.inl ⟨?g_rAAAA8, ?y_rAAAA8⟩) (by assumption) ?r_rAAAA8
   case hi_rAAAA8 => (simp only [List.getElem?_toArray, List.getElem?_cons_succ, List.getElem?_cons_zero]; rfl)
   case k1_rAAAA8 => kernel_rfl
   case k2_rAAAA8 => kernel_rfl
   case k3_rAAAA8 => kernel_rfl
   case g_rAAAA8 => rfl
   case y_rAAAA8 => (intro w hSw; (try dsimp only at hSw); first | (go_simp; done) | (go_simp; with_reducible rfl))
   (try simp only [Act.put, List.setIfInBounds_toArray, List.set_cons_zero, List.set_cons_succ])
   refine wpAnyH_ready (rs := [9]) ?k1_rAAAA9 (by simp) ?r_rAAAA9
   case k1_rAAAA9 => kernel_rfl
   refine AllReadyH.cons (o := ?orAAAA9) ?hi_rAAAA9 (fun K hK => ?s_rAAAA9) ?m_rAAAA9
   case hi_rAAAA9 => (simp only [List.getElem?_toArray, List.getElem?_cons_succ, List.getElem?_cons_zero]; rfl)
   case m_rAAAA9 => exact AllReadyH.nil
   go_simp
   have HB := Lib.hid (show PB V wa3.heap.size #[.int .i64 0, .int .i64 0, .int .i64 0, .bool false] (wa3.alloc (.cells #[.int .i64 0, .int .i64 0, .int .i64 0, .bool false] 42)) from ⟨below_step HQ.out.b (by with_reducible repeat (first | exact Below.refl _ _ | assumption | apply pw_below_drewN | apply Below.drew | apply below_alloc)), HQ.out.b.size, blk_newS rfl⟩)
   replace HQ := Lib.hid (Q5.next (W' := (wa3.alloc (.cells #[.int .i64 0, .int .i64 0, .int .i64 0, .bool false] 42))) HQ.out (by with_reducible repeat (first | exact Below.refl _ _ | assumption | apply pw_below_drewN | apply Below.drew | apply below_alloc)))
   generalize (wa3.alloc (.cells #[.int .i64 0, .int .i64 0, .int .i64 0, .bool false] 42)) = W8 at HB HQ ⊢
   generalize wa3.heap.size = g8 at HB ⊢
   refine hK.out _ _ HQ.out (fun hHeld => ?_)
   clear hK K
   (try simp only [Act.put, List.setIfInBounds_toArray, List.set_cons_zero, List.set_cons_succ])
   refine wpAnyH_ready (rs := [10]) ?k1_rAAAA10 (by simp) ?r_rAAAA10
   case k1_rAAAA10 => kernel_rfl
   refine AllReadyH.cons (o := ?orAAAA10) ?hi_rAAAA10 (fun K hK => ?s_rAAAA10) ?m_rAAAA10
   case hi_rAAAA10 => (simp only [List.getElem?_toArray, List.getElem?_cons_succ, List.getElem?_cons_zero]; rfl)
   case m_rAAAA10 => exact AllReadyH.nil
   go_simp
   have q0 := (blk_cell HB.out.hx 0).trans rfl
   have q1 := (blk_cell HB.out.hx 1).trans rfl
   have q2 := (blk_cell HB.out.hx 2).trans rfl
   have q3 := (blk_cell HB.out.hx 3).trans rfl
   have z0 := blk_frozen HB.out.hx 0
   have z1 := blk_frozen HB.out.hx 1
   have z2 := blk_frozen HB.out.hx 2
   have z3 := blk_frozen HB.out.hx 3
   go_simp
   have HC := Lib.hid ((((HB.out.set 0 (.int .i64 x.f0)).set 1 (.int .i64 x.f1)).set 2 (.int .i64 0)).set 3 (.bool (q x.f1)))
   refine hK.out _ _ (Q5.of HV.out HC.out.b) (fun hHeld => ?_)
   clear hK K q0 q1 q2 q3 z0 z1 z2 z3 HQ
   (try simp only [Act.put, List.setIfInBounds_toArray, List.set_cons_zero, List.set_cons_succ])
   refine wpAnyH_done (by kernel_rfl) ?_ _
   refine NoPanic.normal ?_
   refine gen2 (φ := fun W => Exit.then _ _ Exit.normal _ W) (P := fun W => PB V g8 #[.int .i64 x.f0, .int .i64 x.f1, .int .i64 0, .bool (q x.f1)] W) HC.out ?_
   rintro U hU
   have I5 := Lib.hid (IV.out.next hU.b)
   have SPU := Lib.hid (SPV.out.below hU.b)
   have HA := Lib.hid (blk_below HV.out hU.b)
   have HU := Lib.hid hU
   have GU := Lib.hid (show U.heap.size ≥ V.heap.size from hU.b.size)
   clear hU HB HC IV SPV
   have a0 := (blk_cell HA.out 0).trans rfl
   have a1 := (blk_cell HA.out 1).trans rfl
   have a2 := (blk_cell HA.out 2).trans rfl
   have a3 := (blk_cell HA.out 3).trans rfl
   have a4 := (blk_cell HA.out 4).trans rfl
   have y0 := (blk_cell HU.out.hx 0).trans rfl
   have y1 := (blk_cell HU.out.hx 1).trans rfl
   have y2 := (blk_cell HU.out.hx 2).trans rfl
   have y3 := (blk_cell HU.out.hx 3).trans rfl
   cases hq : q x.f1 with
   | true =>
    have PX := Lib.hid (show pieceG q x = ⟨x.f0, x.f1, cnt x.f2, true⟩ by unfold pieceG; rw [hq]; rfl)
    rw [hq] at HU y3
    clear hq
    go_wp2_with fail
    (go_at_call 26; refine (rope_segcalls x p A1 c1 B1 d1_ _).mono ?_; rintro e w5 ⟨rfl, hb5⟩)
    have SP5 := Lib.hid (SPU.out.below hb5)
    have I55 := Lib.hid (I5.out.next hb5)
    have H5 := Lib.hid (HU.out.next hb5)
    clear hb5 I5 SPU HU y0 y1 y2 y3 a0 a1 a2 a3 a4 HA
    go_wp2_with fail
    (go_at_call 33; refine (len_rp SP5.out.rp ZX.out.s2).mono ?_; rintro e w6 ⟨rfl, hw6⟩; subst hw6)
    have y0 := (blk_cell H5.out.hx 0).trans rfl
    have y1 := (blk_cell H5.out.hx 1).trans rfl
    have y2 := (blk_cell H5.out.hx 2).trans rfl
    have y3 := (blk_cell H5.out.hx 3).trans rfl
    have z2 := blk_frozen H5.out.hx 2
    go_upto_region 8 with fail
    refine gen2 (φ := fun W => Code.wp _ _ _ _ W) (P := fun W => LoZ w (some ad) c7 xss xs v ((xs.take kk).map (pieceG q)) W ∧ PB V g8 #[.int .i64 x.f0, .int .i64 x.f1, .int .i64 (cnt x.f2), .bool true] W) ⟨?hP1, H5.out.set 2 _⟩ ?_
    case hP1 => exact IVV.out.next (H5.out.set 2 _).b
    clear y0 y1 y2 y3 z2 H5 I55 SP5
    rintro W6 ⟨hi6, hp6⟩
    have I6 := Lib.hid hi6
    have y0 := (blk_cell hp6.hx 0).trans rfl
    have y1 := (blk_cell hp6.hx 1).trans rfl
    have y2 := (blk_cell hp6.hx 2).trans rfl
    have y3 := (blk_cell hp6.hx 3).trans rfl
    clear hi6 hp6
    go_wp2_with (first | ((with_reducible refine gate_builtin (b := .append) rfl ?_); at_builtin; go_must (refine Kd.R_append kP (w0 := w) w.heap.size rfl _ _ 38 42 (.agg #[.int .i64 0, .int .i64 0, .int .i64 0, .bool false]) 32 rfl Tryd.underlying38 infoC42 rfl (by decide) (by decide) v ((xs.take kk).map (pieceG q)) (pieceG q x) [.int .i64 x.f0, .int .i64 x.f1, .int .i64 (cnt x.f2), .bool true] (fun _ => True) (fun _ => False) rfl rfl ?aM (fun _ hk => hk.elim) (fun _ _ => trivial) ?aO ?aB ?aS ?aL ?_); (case aM => rw [PX.out]; exact k42_mkM _ _ _ _); (case aO => exact I6.out.row); (case aB => exact I6.out.b); (case aS => exact I6.out.b.size); (case aL => have := LN.out; omega); intro v8 w8 ho8 hb8 hg8 hat8; have I8 := Lib.hid (show LoZ w (some ad) c7 xss xs v8 ((xs.take kk).map (pieceG q) ++ [pieceG q x]) w8 from ⟨hb8, I6.out.sh.grown I6.out.row hg8 (by decide) (by decide) (by decide) (by decide), ho8⟩); clear ho8 hb8 hg8 hat8))
    go_roundw
    case rel => exact ⟨kk + 1, _, by omega, by go_num, rfl, by rw [TK.out]; exact I8⟩
    case measure =>
     simp only [cntV]
     omega
   | false =>
    have PX := Lib.hid (show pieceG q x = ⟨x.f0, x.f1, 0, false⟩ by unfold pieceG; rw [hq]; rfl)
    rw [hq] at HU y3
    clear hq
    have I6 := I5
    go_wp2_with (first | ((with_reducible refine gate_builtin (b := .append) rfl ?_); at_builtin; go_must (refine Kd.R_append kP (w0 := w) w.heap.size rfl _ _ 38 42 (.agg #[.int .i64 0, .int .i64 0, .int .i64 0, .bool false]) 32 rfl Tryd.underlying38 infoC42 rfl (by decide) (by decide) v ((xs.take kk).map (pieceG q)) (pieceG q x) [.int .i64 x.f0, .int .i64 x.f1, .int .i64 0, .bool false] (fun _ => True) (fun _ => False) rfl rfl ?aM (fun _ hk => hk.elim) (fun _ _ => trivial) ?aO ?aB ?aS ?aL ?_); (case aM => rw [PX.out]; exact k42_mkM _ _ _ _); (case aO => exact I6.out.row); (case aB => exact I6.out.b); (case aS => exact I6.out.b.size); (case aL => have := LN.out; omega); intro v8 w8 ho8 hb8 hg8 hat8; have I8 := Lib.hid (show LoZ w (some ad) c7 xss xs v8 ((xs.take kk).map (pieceG q) ++ [pieceG q x]) w8 from ⟨hb8, I6.out.sh.grown I6.out.row hg8 (by decide) (by decide) (by decide) (by decide), ho8⟩); clear ho8 hb8 hg8 hat8))
    go_roundw
    case rel => exact ⟨kk + 1, _, by omega, by go_num, rfl, by rw [TK.out]; exact I8⟩
    case measure =>
     simp only [cntV]
     omega
  ·have d1 : decide ((kk : Int) < (xss.length : Int)) = false := by simp; omega
   go_wp2
   go_ret
   have e : xs.take kk = xs := List.take_of_length_le (by rw [HS.out.len]; omega)
   rw [e] at IW
   exact ⟨_, rfl, IW.out.row, IW.out.b⟩
end Go.Proofs.YtlcfhmnjdkhkoaaDoor.Seg
/- Views: the walk of Runs. Conditions: at most 1000 segments, of at most 2^40 bytes, spans, sites. -/
namespace Go.Proofs.YtlcfhmnjdkhkoaaDoor.Seg
open Go.RowKit Go.Proofs.YtlcfhmnjdkhkoaaDoorPl Go.Maps Go.Proofs.YtlcfhmnjdkhkoaaDoorW.PrintWords Go.Proofs.YtlcfhmnjdkhkoaaDoorW.PrintLast Go.Proofs.YtlcfhmnjdkhkoaaDoorW.PrintMore Go.Proofs.YtlcfhmnjdkhkoaaDoor.Rope Go.Proofs.YtlcfhmnjdkhkoaaDoor.PViewRuns Go.Proofs.YtlcfhmnjdkhkoaaDoor.Pure
set_option linter.unusedVariables false
set_option linter.unusedSimpArgs false
theorem infoC51 : (Tryd.prog.info? 51).map (fun i => (i.zero, i.size, i.bytes)) = some (some (.agg #[.int .i64 0, .int .i64 0, .bool false, .string ⟨#[]⟩]), 4, 40) := by kernel_rfl
theorem at_P {w : World} {A : Option Addr} {n : Nat} {ps : List (S42)} (h : Kd.C kP w A n ps) {j : Nat} {p : S42} (hx : ps[j]? = some p) (hj : j < n) : ∃ ad, A = some ad ∧ w.cell? (ad.add (j * 4)) = some (.int .i64 p.f0) ∧ w.cell? ⟨(ad.add (j * 4)).block, (ad.add (j * 4)).off + 1, none⟩ = some (.int .i64 p.f1) ∧ w.cell? ⟨(ad.add (j * 4)).block, (ad.add (j * 4)).off + 2, none⟩ = some (.int .i64 p.f2) ∧ w.cell? ⟨(ad.add (j * 4)).block, (ad.add (j * 4)).off + 3, none⟩ = some (.bool p.f3) := by
 have e2 : rd_T42 ps (j : Int) = p := by unfold rd_T42; rw [Int.toNat_natCast, List.getD_eq_getElem?_getD, hx]; rfl
 obtain ⟨ad, e, h0, h1, h2, h3⟩ := at_T42 h (j : Int) (by omega) (by omega)
 rw [e2, Int.toNat_natCast] at h0 h1 h2 h3
 exact ⟨ad, e, h0, h1, h2, h3⟩
theorem stG_le (q : Int → Bool) : ∀ xs : List G, (∀ x ∈ xs, wideG q x ≤ 1099511627776) → stG q xs ≤ xs.length * 1099511627776
 | [], _ => by simp [stG]
 | x :: r, h => by
  have h1 := h x (by simp)
  have h2 := stG_le q r (fun y hy => h y (by simp [hy]))
  simp only [stG, List.length_cons]
  omega
theorem stG_takes {q : Int → Bool} {xs : List G} (hl : xs.length ≤ 1000) (h : ∀ x ∈ xs, wideG q x ≤ 1099511627776) (j : Nat) : stG q (xs.take j) ≤ 1099511627776000 := by
 have h1 := stG_le q (xs.take j) (fun x hx => h x (List.mem_of_mem_take hx))
 have h2 : (xs.take j).length ≤ 1000 := by rw [List.length_take]; omega
 omega
theorem oneG_hit {q : Int → Bool} {F N S A B : Int} {x : G} (hA : A = max (F - S) 0) (hB : B = min (wideG q x : Int) (N - (S - F))) (h : A < B) : oneG q F N S x = [runG q x A.toNat B.toNat] := by unfold oneG; rw [← hA, ← hB, if_pos h]
theorem oneG_miss {q : Int → Bool} {F N S A : Int} {x : G} (hA : A = max (F - S) 0) (h : ¬ (A < (wideG q x : Int) ∧ A < N - (S - F))) : oneG q F N S x = [] := by unfold oneG; rw [← hA, if_neg (by omega)]
/-- What holds all along Runs. -/
structure RuZ (w : World) (A : Option Addr) (c : Nat) (xss : List (List Value)) (xs : List G) (vp : Value) (ps : List (S42)) (v : Value) (is : List Run) (W : World) : Prop where
 b : Below w.heap.size w W
 sh : Sh W A c xss xs
 prow : Kd.R kP 42 W w.heap.size (fun _ => True) vp ps
 row : Kd.R kR 51 W w.heap.size (fun _ => True) v is
theorem RuZ.next {w W W' : World} {A : Option Addr} {c : Nat} {xss : List (List Value)} {xs : List G} {vp : Value} {ps : List (S42)} {v : Value} {is : List Run} (h : RuZ w A c xss xs vp ps v is W) (hb : Below W.heap.size W W') : RuZ w A c xss xs vp ps v is W' := ⟨below_step h.b hb, h.sh.below hb, Kd.R_below h.prow hb, Kd.R_below h.row hb⟩
theorem RuZ.more {w W W' : World} {A : Option Addr} {c : Nat} {xss : List (List Value)} {xs : List G} {vp : Value} {ps : List (S42)} {v v' : Value} {is js : List Run} (h : RuZ w A c xss xs vp ps v is W) (hb : Below w.heap.size w W') (hg : W.grownBy W' v.ownBlock) (ho : Kd.R kR 51 W' w.heap.size (fun _ => True) v' js) : RuZ w A c xss xs vp ps v' js W' :=
 ⟨hb, h.sh.grown h.row hg (by decide) (by decide) (by decide) (by decide), R_moveT rfl h.prow (R_typeD h.row hg (by decide)), ho⟩
/-- A world behind V with a block of type t. -/
structure TB (t : TypeId) (V : World) (g : Nat) (cs : Array Value) (W : World) : Prop where
 b : Below V.heap.size V W
 lo : V.heap.size ≤ g
 hx : W.heap[g]? = some (.cells cs t (0, 0))
theorem TB.next {t : TypeId} {V W W' : World} {g : Nat} {cs : Array Value} (h : TB t V g cs W) (hb : Below W.heap.size W W') : TB t V g cs W' := ⟨below_step h.b hb, h.lo, blk_below h.hx hb⟩
theorem TB.set {t : TypeId} {V W : World} {g : Nat} {cs : Array Value} (h : TB t V g cs W) (j : Nat) (u : Value) : TB t V g (cs.setIfInBounds j u) (W.setCell ⟨g, j, none⟩ u) := ⟨below_set h.b h.lo, h.lo, by simpa using blk_set h.hx j u⟩
def RetRuns (rs : List Run) (w : World) (e : Ending) (w' : World) : Prop := ∃ v, e = .returned v ∧ Kd.R kR 51 w' w.heap.size (fun _ => True) v rs ∧ Below w.heap.size w w'
attribute [local go_sem] max2_int min2_int max_two min_two
set_option maxRecDepth 1000000 in
set_option maxHeartbeats 8000000 in
theorem runs_calls (f : Bool) (A : Option Addr) (c : Nat) (xss : List (List Value)) (xs : List G) (g : Nat) (lb : Array Value) (q : Int → Bool) (fr n : Int) (w : World) (eg : ∀ args w, (callFunc g args).run Tryd.prog w = .ok (.enter g args) w) (hp : PredL w g lb q) (h : Sh w A c xss xs) (hl : xss.length ≤ 1000) (hz : ∀ x ∈ xs, Sz x) (hok : ∀ x ∈ xs, okB x = true) (hfr : fr ≤ 9223372036854775807) (hn : -9223372036854775808 ≤ n) :
  Calls Tryd.prog 7 #[.agg #[.bool f, .slice A xss.length c], .func (.func g) #[] lb, .int .i64 fr, .int .i64 n] w (RetRuns (runsG q (max fr 0) (min n 200) 0 xs) w) := by
 have HS := Lib.hid h
 have HP := Lib.hid hp
 have HZ := Lib.hid hz
 have LE := Lib.hid h.len
 have OK := Lib.hid hok
 have WL := Lib.hid (fun x hx => wideG_le (q := q) (hok x hx) (hz x hx).s2)
 have ST := Lib.hid (stG_takes (q := q) (xs := xs) (by rw [h.len]; exact hl) WL.out)
 clear h hp hz hok
 obtain ⟨F, hF⟩ : ∃ F, F = max fr 0 := ⟨_, rfl⟩
 obtain ⟨N, hN⟩ : ∃ N, N = min n 200 := ⟨_, rfl⟩
 have eF : (if fr < 0 then (0 : Int) else fr) = F := by rw [hF]; split <;> omega
 have eN : (if (200 : Int) < n then (200 : Int) else n) = N := by rw [hN]; split <;> omega
 rw [← hF, ← hN]
 have F0 : Hid (0 ≤ F ∧ F ≤ 9223372036854775807) := Lib.hid (by omega)
 have N0 : Hid (-9223372036854775808 ≤ N ∧ N ≤ 200) := Lib.hid (by omega)
 clear hF hN hfr hn
 go_enter Tryd.func7, Tryd.ntmps7
 go_wp2_with fail
 clear eF eN
 have B0 := Lib.hid (below_alloc (Below.refl w.heap.size w) (.cells #[.bool f, .slice A xss.length c] 27))
 have y0 := (blk_cell (blk_newS (w := w) (o := .cells #[.bool f, .slice A xss.length c] 27) rfl) 0).trans rfl
 have y1 := (blk_cell (blk_newS (w := w) (o := .cells #[.bool f, .slice A xss.length c] 27) rfl) 1).trans rfl
 (go_at_call 24; refine (segs_calls f A c xss xs _ (HS.out.below B0.out) (by omega)).mono ?_; rintro e w1 ⟨v1, rfl, hr1, hb1⟩)
 obtain ⟨A7, c7, e7⟩ := Kd.R_slice hr1
 subst e7
 have S0 := Lib.hid (Sh.of hr1 (HS.out.sgs.below (below_step B0.out hb1)))
 have S1 := Lib.hid ((HS.out.below B0.out).below hb1)
 have B1 := Lib.hid (below_step B0.out hb1)
 replace y0 := pw_cell_below hb1 y0
 replace y1 := pw_cell_below hb1 y1
 clear hr1 hb1 B0
 go_wp2_with fail
 (go_at_call 12; refine (look_calls f A c xss xs g lb q _ eg (fun W m hb => HP.out W m (below_step B1.out hb)) S1.out (by omega) HZ.out).mono ?_; rintro e w2 ⟨v2, rfl, hr2, hb2⟩)
 obtain ⟨A8, c8, e8⟩ := Kd.R_slice hr2
 subst e8
 have I1 := Lib.hid (show RuZ w A7 c7 xss xs (.slice A8 (xs.map (pieceG q)).length c8) (xs.map (pieceG q)) (.slice none 0 0) [] w2 from ⟨below_step B1.out hb2, S0.out.below hb2, Kd.R_lower hr2 B1.out.size, Kd.R_nil _ _ _ _ _⟩)
 have LP : (xs.map (pieceG q)).length = xss.length := by rw [List.length_map]; exact LE.out
 rw [LP] at I1 ⊢
 clear hr2 hb2 B1 S0 S1 y0 y1
 go_wp2
 go_loopw [28, 10, 11] (fun s9 s10 s3 wr => ∃ (kk : Nat) (v : Value), kk ≤ xss.length ∧ s9 = .int .i64 (kk : Int) ∧ s10 = .int .i64 ((stG q (xs.take kk) : Nat) : Int) ∧ v = s3 ∧ Hid (RuZ w A7 c7 xss xs (.slice A8 xss.length c8) (xs.map (pieceG q)) v (runsG q F N 0 (xs.take kk)) wr)) (fun s9 _ _ _ => xss.length - cntV s9)
 case atStart => exact ⟨0, _, Nat.zero_le _, rfl, rfl, rfl, by simpa [runsG] using I1⟩
 case round =>
  obtain ⟨kk, v, hkk, rfl, rfl, ev, IW⟩ := hrel
  subst ev
  by_cases hlt : kk < xss.length
  ·have d1 : decide ((kk : Int) < (xss.length : Int)) = true := by simp; omega
   have b1 : (0 : Int) ≤ (kk : Int) := by omega
   have b2 : (kk : Int) < (xss.length : Int) := by omega
   obtain ⟨x, hx⟩ : ∃ x, xs[kk]? = some x := ⟨_, List.getElem?_eq_getElem (by rw [HS.out.len]; exact hlt)⟩
   have hpx : (xs.map (pieceG q))[kk]? = some (pieceG q x) := by rw [List.getElem?_map, hx]; rfl
   have hC := Kd.R_reads' IW.out.prow
   have hC2 : Kd.C kP wr A8 xss.length (xs.map (pieceG q)) := by have := hC.2.2; rw [LP] at this; exact this
   obtain ⟨ad, e0, y0, y1, y2, y3⟩ := at_P hC2 hpx hlt
   subst e0
   have ZX := Lib.hid (HZ.out x (List.mem_of_getElem? hx))
   have OX := Lib.hid (OK.out x (List.mem_of_getElem? hx))
   have TS := Lib.hid (stG_take (q := q) hx)
   have TR := Lib.hid (runsG_take (q := q) (f := F) (n := N) hx)
   have SX := Lib.hid (ST.out kk)
   have WX := Lib.hid (WL.out x (List.mem_of_getElem? hx))
   have HX := Lib.hid hx
   have PW := Lib.hid (pieceG_wide (q := q) OX.out ZX.out.s2)
   clear hx hpx hC hC2
   obtain ⟨S, hS⟩ : ∃ S : Int, S = ((stG q (xs.take kk) : Nat) : Int) := ⟨_, rfl⟩
   rw [← hS] at TR ⊢
   obtain ⟨D, hD⟩ : ∃ D : Int, D = (wideG q x : Int) := ⟨_, rfl⟩
   rw [← hD] at PW
   have S2 : Hid (((stG q (xs.take (kk + 1)) : Nat) : Int) = S + D) := Lib.hid (by rw [TS.out, hS, hD]; omega)
   have SB : Hid (0 ≤ S ∧ S ≤ 1099511627776000 ∧ 0 ≤ D ∧ D ≤ 1099511627776) := Lib.hid (by have := SX.out; have := WX.out; omega)
   have HD := Lib.hid hD
   clear hS hD TS SX WX
   have w1_ : IntKind.i64.wrap (S + D) = S + D := IntWalk.i64_in _ (by have := SB.out; omega)
   have w2_ : IntKind.i64.wrap (F - S) = F - S := IntWalk.i64_in _ (by have := SB.out; have := F0.out; omega)
   have w3_ : IntKind.i64.wrap (S + D - S) = D := by rw [show S + D - S = D by omega]; exact IntWalk.i64_in _ (by have := SB.out; omega)
   have w3b : IntKind.i64.wrap D = D := IntWalk.i64_in _ (by have := SB.out; omega)
   have w4_ : IntKind.i64.wrap (S - F) = S - F := IntWalk.i64_in _ (by have := SB.out; have := F0.out; omega)
   generalize hpp : pieceG q x = P at y0 y1 y2 y3 PW
   have HPP := Lib.hid hpp
   clear hpp
   go_upto_region 8 with (first | ((with_reducible refine gate_dst (N := 13) rfl ?_); refine box_event ?hg (N := 13) ?hd (cs := #[.int .i64 0, .int .i64 0, .int .i64 0, .bool false]) (t := 42) ?hr ?_; (case hd => rfl); (case hg => rfl); (case hr => first | (go_simp; done) | (go_simp; rfl)); intro gA hgA wA hxA hbA; have GA := Lib.hid (show TB 42 wr gA #[.int .i64 0, .int .i64 0, .int .i64 0, .bool false] wA from ⟨hbA, by rw [hgA]; exact Nat.le_refl _, hxA⟩); have q0 := (blk_cell hxA 0).trans rfl; have q1 := (blk_cell hxA 1).trans rfl; have q2 := (blk_cell hxA 2).trans rfl; have q3 := (blk_cell hxA 3).trans rfl; have z0 := blk_frozen hxA 0; have z1 := blk_frozen hxA 1; have z2 := blk_frozen hxA 2; have z3 := blk_frozen hxA 3; clear hgA hxA hbA))
   refine gen2 (φ := fun W => Code.wp _ _ _ _ W) (P := fun W => TB 42 wr gA #[.int .i64 P.f0, .int .i64 P.f1, .int .i64 P.f2, .bool P.f3] W) ((((GA.out.set 0 (.int .i64 P.f0)).set 1 (.int .i64 P.f1)).set 2 (.int .i64 P.f2)).set 3 (.bool P.f3)) ?_
   clear q0 q1 q2 q3 z0 z1 z2 z3 GA y0 y1 y2 y3
   rintro V hV
   have IV := Lib.hid (IW.out.next hV.b)
   have TV := Lib.hid hV
   have y0 := (blk_cell hV.hx 0).trans rfl
   have y1 := (blk_cell hV.hx 1).trans rfl
   have y2 := (blk_cell hV.hx 2).trans rfl
   have y3 := (blk_cell hV.hx 3).trans rfl
   clear hV IW
   go_wp2_with fail
   (go_at_call 25; refine (view_wide.calls _ _ _ _ D _ PW.out).mono ?_; rintro e w5 ⟨rfl, hb5⟩)
   have I5 := Lib.hid (IV.out.next hb5)
   have T5 := Lib.hid (TV.out.next hb5)
   clear hb5 IV TV y0 y1 y2 y3
   obtain ⟨Q, hQ⟩ : ∃ Q, Q = max (F - S) 0 := ⟨_, rfl⟩
   have eQ : (if F - S < 0 then (0 : Int) else F - S) = Q := by rw [hQ]; split <;> omega
   have HQ := Lib.hid hQ
   clear hQ
   go_upto_region 10 with fail
   clear eQ
   by_cases c1 : Q < D
   ·have e1 : decide (Q < D) = true := by simpa using c1
    by_cases c2 : S - F < N
    ·have e2 : decide (S - F < N) = true := by simpa using c2
     have w5_ : IntKind.i64.wrap (N - (S - F)) = N - (S - F) := IntWalk.i64_in _ (by have := SB.out; have := F0.out; have := N0.out; have := HQ.out; omega)
     have C1 := Lib.hid c1
     have C2 := Lib.hid c2
     clear c1 c2
     obtain ⟨R, hR⟩ : ∃ R, R = min D (N - (S - F)) := ⟨_, rfl⟩
     have eR : (if N - (S - F) < D then N - (S - F) else D) = R := by rw [hR]; split <;> omega
     have HR := Lib.hid hR
     clear hR
     go_upto_region 12 with fail
     clear eR
     have y0 := (blk_cell T5.out.hx 0).trans rfl
     have y1 := (blk_cell T5.out.hx 1).trans rfl
     have y2 := (blk_cell T5.out.hx 2).trans rfl
     have y3 := (blk_cell T5.out.hx 3).trans rfl
     go_upto_region 13 with (first | ((with_reducible refine gate_dst (N := 17) rfl ?_); refine box_event ?hg (N := 17) ?hd (cs := #[.int .i64 0, .int .i64 0, .bool false, .string ByteArray.empty]) (t := 51) ?hr ?_; (case hd => rfl); (case hg => rfl); (case hr => first | (go_simp; done) | (go_simp; rfl)); intro gB hgB wB hxB hbB; have GB := Lib.hid (show TB 51 w5 gB #[.int .i64 0, .int .i64 0, .bool false, .string ByteArray.empty] wB from ⟨hbB, by rw [hgB]; exact Nat.le_refl _, hxB⟩); have q0 := (blk_cell hxB 0).trans rfl; have q1 := (blk_cell hxB 1).trans rfl; have q2 := (blk_cell hxB 2).trans rfl; have q3 := (blk_cell hxB 3).trans rfl; have z0 := blk_frozen hxB 0; have z1 := blk_frozen hxB 1; have z2 := blk_frozen hxB 2; have z3 := blk_frozen hxB 3; clear hgB hxB hbB))
     refine gen2 (φ := fun W => Code.wp _ _ _ _ W) (P := fun W => TB 51 w5 gB #[.int .i64 P.f0, .int .i64 P.f1, .bool P.f3, .string ByteArray.empty] W) ((((GB.out.set 0 (.int .i64 P.f0)).set 1 (.int .i64 P.f1)).set 2 (.bool P.f3)).set 3 (.string ByteArray.empty)) ?_
     clear q0 q1 q2 q3 z0 z1 z2 z3 GB y0 y1 y2 y3
     rintro U hU
     have I6 := Lib.hid (I5.out.next hU.b)
     have T6 := Lib.hid (T5.out.next hU.b)
     have R6 := Lib.hid hU
     have IU5 := I5
     clear hU I5 T5
     have LN : Hid ((runsG q F N 0 (xs.take kk)).length ≤ 1000) := Lib.hid (by have := runsG_len q F N (xs.take kk) 0; rw [List.length_take] at this; omega)
     have y3 := (blk_cell T6.out.hx 3).trans rfl
     cases hq : q x.f1 with
     | true =>
      obtain rfl : ⟨x.f0, x.f1, cnt x.f2, true⟩ = P := by rw [← HPP.out]; unfold pieceG; rw [hq]; rfl
      have PR := fun a b => Lib.hid (show runG q x a b = ⟨x.f0, x.f1, true, txtB (((lets x.f2).take b).drop a)⟩ by unfold runG; rw [hq]; rfl)
      clear hq HPP PW
      obtain ⟨cs, hcs⟩ : ∃ cs, xss[kk]? = some cs := ⟨_, List.getElem?_eq_getElem hlt⟩
      obtain ⟨p, A1, c1, B1, d1_, ecs, hsp⟩ := I6.out.sh.sgs.2 kk cs x hcs HX.out
      subst ecs
      obtain ⟨ad2, e0, s0, s1, s2, s3, s4⟩ := at_Q I6.out.sh.row hcs hlt
      subst e0
      have SPX := Lib.hid hsp
      clear hcs hsp
      go_wp2_with fail
      (go_at_call 26; refine (rope_segcalls x p A1 c1 B1 d1_ _).mono ?_; rintro e w6 ⟨rfl, hb6⟩)
      obtain ⟨t, cs, hi, hs⟩ := (SPX.out.below hb6).rp
      have ec := lets_eq hi.g.letts hs
      subst ec
      have HI := Lib.hid hi
      have I61 := Lib.hid (I6.out.next hb6)
      have R61 := Lib.hid (R6.out.next hb6)
      clear hi hs hb6 I6 R6 SPX s0 s1 s2 s3 s4 y3 T6
      go_wp2_with fail
      (go_at_call 27; refine (cut_is Q R HI.out).mono ?_; rintro e w7 ⟨v7, rfl, hi7, hb7⟩)
      have HI7 := Lib.hid hi7
      have I62 := Lib.hid (I61.out.next hb7)
      have R62 := Lib.hid (R61.out.next hb7)
      clear hi7 hb7 I61 R61 HI
      go_wp2_with fail
      (go_at_call 28; refine (text_is HI7.out (txtB (((lets x.f2).take R.toNat).drop Q.toNat)) (txtB_list _)).mono ?_; rintro e w8 ⟨rfl, hb8⟩)
      have I63 := Lib.hid (I62.out.next hb8)
      have R63 := Lib.hid (R62.out.next hb8)
      have y3 := (blk_cell R63.out.hx 3).trans rfl
      have z3 := blk_frozen R63.out.hx 3
      have PR2 := PR Q.toNat R.toNat
      clear hb8 I62 R62 HI7 PR
      go_upto_region 15 with fail
      refine gen2 (φ := fun W => Code.wp _ _ _ _ W) (P := fun W => RuZ w (some ad2) c7 xss xs (.slice (some ad) xss.length c8) (xs.map (pieceG q)) v (runsG q F N 0 (xs.take kk)) W ∧ TB 51 w5 gB #[.int .i64 x.f0, .int .i64 x.f1, .bool true, .string (txtB (((lets x.f2).take R.toNat).drop Q.toNat))] W) ⟨IU5.out.next (R63.out.set 3 _).b, R63.out.set 3 _⟩ ?_
      clear y3 z3 I63 R63
      rintro W6 ⟨hi6, hr6⟩
      have I8 := Lib.hid hi6
      have y0 := (blk_cell hr6.hx 0).trans rfl
      have y1 := (blk_cell hr6.hx 1).trans rfl
      have y2 := (blk_cell hr6.hx 2).trans rfl
      have y3 := (blk_cell hr6.hx 3).trans rfl
      clear hi6 hr6 IU5
      by_cases c3 : Q < R
      ·have e3 : decide (Q < R) = true := by simpa using c3
       have C3 := Lib.hid c3
       clear c3
       go_wp2_with (first | ((with_reducible refine gate_builtin (b := .append) rfl ?_); at_builtin; go_must (refine Kd.R_append kR (w0 := w) w.heap.size rfl _ _ 34 51 (.agg #[.int .i64 0, .int .i64 0, .bool false, .string ⟨#[]⟩]) 40 rfl Tryd.underlying34 infoC51 rfl (by decide) (by decide) v (runsG q F N 0 (xs.take kk)) (⟨x.f0, x.f1, true, txtB (((lets x.f2).take R.toNat).drop Q.toNat)⟩) _ (fun _ => True) (fun _ => False) rfl rfl (k51_mkM _ _ _ _) (fun _ hk => hk.elim) (fun _ _ => trivial) ?aO ?aB ?aS ?aL ?_); (case aO => exact I8.out.row); (case aB => exact I8.out.b); (case aS => exact I8.out.b.size); (case aL => have := LN.out; omega); intro v8 w8 ho8 hb8 hg8 hat8; have I9 := Lib.hid (I8.out.more hb8 hg8 ho8); clear ho8 hb8 hg8 hat8))
       go_roundw
       case rel => exact ⟨kk + 1, _, by omega, by go_num, by rw [S2.out], rfl, by rw [TR.out, oneG_hit HQ.out (by rw [← HD.out]; exact HR.out) C3.out, PR2.out]; exact I9⟩
       case measure =>
        simp only [cntV]
        omega
      ·have e3 : decide (Q < R) = false := by simpa using c3
       have C3 := Lib.hid c3
       clear c3
       go_wp2
       go_roundw
       case rel => exact ⟨kk + 1, _, by omega, by go_num, by rw [S2.out], rfl, by rw [TR.out, oneG_miss HQ.out (by rw [← HD.out]; have := HR.out; have := C3.out; omega), List.append_nil]; exact I8⟩
       case measure =>
        simp only [cntV]
        omega
     | false =>
      obtain rfl : ⟨x.f0, x.f1, 0, false⟩ = P := by rw [← HPP.out]; unfold pieceG; rw [hq]; rfl
      have PR2 := Lib.hid (show runG q x Q.toNat R.toNat = ⟨x.f0, x.f1, false, ⟨#[]⟩⟩ by unfold runG; rw [hq]; rfl)
      clear hq HPP PW
      have I8 := I6
      have y0 := (blk_cell R6.out.hx 0).trans rfl
      have y1 := (blk_cell R6.out.hx 1).trans rfl
      have y2 := (blk_cell R6.out.hx 2).trans rfl
      have u3 := (blk_cell R6.out.hx 3).trans rfl
      clear IU5 T6 R6 I6
      by_cases c3 : Q < R
      ·have e3 : decide (Q < R) = true := by simpa using c3
       have C3 := Lib.hid c3
       clear c3
       go_wp2_with (first | ((with_reducible refine gate_builtin (b := .append) rfl ?_); at_builtin; go_must (refine Kd.R_append kR (w0 := w) w.heap.size rfl _ _ 34 51 (.agg #[.int .i64 0, .int .i64 0, .bool false, .string ⟨#[]⟩]) 40 rfl Tryd.underlying34 infoC51 rfl (by decide) (by decide) v (runsG q F N 0 (xs.take kk)) (⟨x.f0, x.f1, false, ⟨#[]⟩⟩) _ (fun _ => True) (fun _ => False) rfl rfl (k51_mkM _ _ _ _) (fun _ hk => hk.elim) (fun _ _ => trivial) ?aO ?aB ?aS ?aL ?_); (case aO => exact I8.out.row); (case aB => exact I8.out.b); (case aS => exact I8.out.b.size); (case aL => have := LN.out; omega); intro v8 w8 ho8 hb8 hg8 hat8; have I9 := Lib.hid (I8.out.more hb8 hg8 ho8); clear ho8 hb8 hg8 hat8))
       go_roundw
       case rel => exact ⟨kk + 1, _, by omega, by go_num, by rw [S2.out], rfl, by rw [TR.out, oneG_hit HQ.out (by rw [← HD.out]; exact HR.out) C3.out, PR2.out]; exact I9⟩
       case measure =>
        simp only [cntV]
        omega
      ·have e3 : decide (Q < R) = false := by simpa using c3
       have C3 := Lib.hid c3
       clear c3
       go_wp2
       go_roundw
       case rel => exact ⟨kk + 1, _, by omega, by go_num, by rw [S2.out], rfl, by rw [TR.out, oneG_miss HQ.out (by rw [← HD.out]; have := HR.out; have := C3.out; omega), List.append_nil]; exact I8⟩
       case measure =>
        simp only [cntV]
        omega
    ·have e2 : decide (S - F < N) = false := by simpa using c2
     have C2 := Lib.hid c2
     have I8 := I5
     clear c2 I5 T5
     go_wp2
     go_roundw
     case rel => exact ⟨kk + 1, _, by omega, by go_num, by rw [S2.out], rfl, by rw [TR.out, oneG_miss HQ.out (by rw [← HD.out]; have := C2.out; have := HQ.out; omega), List.append_nil]; exact I8⟩
     case measure =>
      simp only [cntV]
      omega
   ·have e1 : decide (Q < D) = false := by simpa using c1
    have C1 := Lib.hid c1
    have I8 := I5
    clear c1 I5 T5
    go_wp2
    go_roundw
    case rel => exact ⟨kk + 1, _, by omega, by go_num, by rw [S2.out], rfl, by rw [TR.out, oneG_miss HQ.out (by rw [← HD.out]; have := C1.out; omega), List.append_nil]; exact I8⟩
    case measure =>
     simp only [cntV]
     omega
  ·have d1 : decide ((kk : Int) < (xss.length : Int)) = false := by simp; omega
   go_wp2
   go_ret
   have e : xs.take kk = xs := List.take_of_length_le (by rw [HS.out.len]; omega)
   rw [e] at IW
   exact ⟨_, rfl, IW.out.row, IW.out.b⟩
end Go.Proofs.YtlcfhmnjdkhkoaaDoor.Seg
/- Views: the walks of the function that tells which labels are open, and of the reference's Look. Conditions: at most 1000 segments, of at most 2^40 bytes, spans, sites. -/
namespace Go.Proofs.YtlcfhmnjdkhkoaaDoor.Seg
open Go.RowKit Go.Proofs.YtlcfhmnjdkhkoaaDoorPl Go.Maps Go.Proofs.YtlcfhmnjdkhkoaaDoorW.PrintWords Go.Proofs.YtlcfhmnjdkhkoaaDoorW.PrintLast Go.Proofs.YtlcfhmnjdkhkoaaDoorW.PrintMore Go.Proofs.YtlcfhmnjdkhkoaaDoor.Rope Go.Proofs.YtlcfhmnjdkhkoaaDoor.PViewRuns Go.Proofs.YtlcfhmnjdkhkoaaDoor.Pure
set_option linter.unusedVariables false
set_option linter.unusedSimpArgs false
/-- Which labels are open, as told. -/
def qO (os : List Bool) (n : Int) : Bool := if 0 ≤ n ∧ n < (os.length : Int) then rdOf false os n else false
theorem qO_lo {os : List Bool} {n : Int} (h : ¬ 0 ≤ n) : qO os n = false := by unfold qO; rw [if_neg (fun k => h k.1)]
theorem qO_hi {os : List Bool} {n : Int} (h : ¬ n < (os.length : Int)) : qO os n = false := by unfold qO; rw [if_neg (fun k => h k.2)]
theorem qO_in {os : List Bool} {n : Int} (h0 : 0 ≤ n) (h1 : n < (os.length : Int)) : qO os n = rdOf false os n := by unfold qO; rw [if_pos ⟨h0, h1⟩]
abbrev P2 (V : World) (a : Addr) (v0 v1 : Value) (w' : World) : Prop := w'.cell? a = some v0 ∧ w'.cell? ⟨a.block, a.off + 1, none⟩ = some v1 ∧ Below V.heap.size V w'
theorem P2.next {V W W' : World} {a : Addr} {v0 v1 : Value} (h : P2 V a v0 v1 W) (hb : Below W.heap.size W W') : P2 V a v0 v1 W' := ⟨pw_cell_below hb h.1, pw_cell_below hb h.2.1, below_step h.2.2 hb⟩
structure LkZ (w : World) (v : Value) (is : List (S42)) (W : World) : Prop where
 b : Below w.heap.size w W
 row : Kd.R kP 42 W w.heap.size (fun _ => True) v is
theorem LkZ.next {w W W' : World} {v : Value} {is : List (S42)} (h : LkZ w v is W) (hb : Below W.heap.size W W') : LkZ w v is W' := ⟨below_step h.b hb, Kd.R_below h.row hb⟩
set_option maxRecDepth 1000000 in
set_option maxHeartbeats 8000000 in
theorem look8_calls (A : Option Addr) (c : Nat) (xs : List G) (B : Option Addr) (d : Nat) (os : List Bool) (w : World) (hr : Kd.C kG w A xs.length xs) (hc : xs.length ≤ c) (ho : Kd.C Kd.bool w B os.length os) (hd : os.length ≤ d) (hl : xs.length ≤ 1000) (hlo : os.length ≤ 1099511627776) (hz : ∀ x ∈ xs, Sz x) (hok : ∀ x ∈ xs, okB x = true) :
  Calls Tryd.prog 13 #[.slice A xs.length c, .slice B os.length d] w (RetLook (xs.map (pieceG (qO os))) w) := by
 have HR := Lib.hid hr
 have HO := Lib.hid ho
 have HZ := Lib.hid hz
 have OK := Lib.hid hok
 clear hr ho hz hok
 go_enter Tryd.func13, Tryd.ntmps13
 have I1 := Lib.hid (show LkZ w (.slice none 0 0) [] w from ⟨Below.refl _ _, Kd.R_nil _ _ _ _ _⟩)
 go_wp2
 go_loopw [6, 5] (fun s9 s3 wr => ∃ (kk : Nat) (v : Value), kk ≤ xs.length ∧ s9 = .int .i64 (kk : Int) ∧ v = s3 ∧ Hid (LkZ w v ((xs.take kk).map (pieceG (qO os))) wr)) (fun s9 _ _ => xs.length - cntV s9)
 case atStart => exact ⟨0, _, Nat.zero_le _, rfl, rfl, by simpa using I1⟩
 case round =>
  obtain ⟨kk, v, hkk, rfl, ev, IW⟩ := hrel
  subst ev
  by_cases hlt : kk < xs.length
  ·have d1 : decide ((kk : Int) < (xs.length : Int)) = true := by simp; omega
   have b1 : (0 : Int) ≤ (kk : Int) := by omega
   have b2 : (kk : Int) < (xs.length : Int) := by omega
   obtain ⟨x, hx⟩ : ∃ x, xs[kk]? = some x := ⟨_, List.getElem?_eq_getElem hlt⟩
   have ZX := Lib.hid (HZ.out x (List.mem_of_getElem? hx))
   have OX := Lib.hid (OK.out x (List.mem_of_getElem? hx))
   have TK := Lib.hid (take_map (f := pieceG (qO os)) hx)
   have LN : Hid (((xs.take kk).map (pieceG (qO os))).length ≤ 1000) := Lib.hid (by rw [List.length_map, List.length_take]; omega)
   obtain ⟨ad, A3, c3, A4, c4, e0, y0, y1, y2, y3, y4, hgr⟩ := at_G (Kd.C_below HR.out IW.out.b) hx hlt
   subst e0
   obtain ⟨q, hq⟩ : ∃ q, q = pieceG (qO os) := ⟨_, rfl⟩
   have HQ := Lib.hid (show pieceG (qO os) x = ⟨x.f0, x.f1, if qO os x.f1 then cnt x.f2 else 0, qO os x.f1⟩ from rfl)
   have HX := Lib.hid hx
   have BO := Lib.hid (Kd.C_below HO.out IW.out.b)
   clear hgr hx hq y3 y4
   go_upto_region 5 with fail
   have QV := Lib.hid (show P2 wr (ad.add (kk * 5)) (.int .i64 x.f0) (.int .i64 x.f1) wr from ⟨y0, y1, Below.refl _ _⟩)
   refine wp_region_noPanic ?_
   refine wp_region_held_drew (S := fun w' => P2 wr (ad.add (kk * 5)) (.int .i64 x.f0) (.int .i64 x.f1) w') ?hm_r ?hS_r (fun hHeld => ?_)
   case hm_r => kernel_rfl
   case hS_r => exact P2.next QV.out (by with_reducible repeat (first | exact Below.refl _ _ | assumption | apply pw_below_drewN | apply Below.drew | apply below_alloc))
   refine wpAnyH_take (i := 0) (oi := ?or0) (v := ?vr0) ?hi_r0 ?k1_r0 ?k2_r0 ?k3_r0 (fun _ _ _ h => h) (Or.inl ⟨?g_r0, ?y_r0⟩) (by assumption) ?r_r0
   case hi_r0 => (simp only [List.getElem?_toArray, List.getElem?_cons_succ, List.getElem?_cons_zero]; rfl)
   case k1_r0 => kernel_rfl
   case k2_r0 => kernel_rfl
   case k3_r0 => kernel_rfl
   case g_r0 => rfl
   case y_r0 => (intro w hSw; (try dsimp only at hSw); first | (go_simp; done) | (go_simp; with_reducible rfl))
   (try simp only [Act.put, List.setIfInBounds_toArray, List.set_cons_zero, List.set_cons_succ])
   refine wpAnyH_take (i := 1) (oi := ?or1) (v := ?vr1) ?hi_r1 ?k1_r1 ?k2_r1 ?k3_r1 (fun _ _ _ h => h) (Or.inl ⟨?g_r1, ?y_r1⟩) (by assumption) ?r_r1
   case hi_r1 => (simp only [List.getElem?_toArray, List.getElem?_cons_succ, List.getElem?_cons_zero]; rfl)
   case k1_r1 => kernel_rfl
   case k2_r1 => kernel_rfl
   case k3_r1 => kernel_rfl
   case g_r1 => rfl
   case y_r1 => (intro w hSw; (try dsimp only at hSw); first | (go_simp; done) | (go_simp; with_reducible rfl))
   (try simp only [Act.put, List.setIfInBounds_toArray, List.set_cons_zero, List.set_cons_succ])
   refine wpAnyH_take (i := 2) (oi := ?or2) (v := ?vr2) ?hi_r2 ?k1_r2 ?k2_r2 ?k3_r2 (fun _ _ _ h => h) (Or.inl ⟨?g_r2, ?y_r2⟩) (by assumption) ?r_r2
   case hi_r2 => (simp only [List.getElem?_toArray, List.getElem?_cons_succ, List.getElem?_cons_zero]; rfl)
   case k1_r2 => kernel_rfl
   case k2_r2 => kernel_rfl
   case k3_r2 => kernel_rfl
   case g_r2 => rfl
   case y_r2 => (intro w hSw; (try dsimp only at hSw); first | (go_simp; done) | (go_simp; with_reducible rfl))
   (try simp only [Act.put, List.setIfInBounds_toArray, List.set_cons_zero, List.set_cons_succ])
   refine wpAnyH_take (i := 3) (oi := ?or3) (v := ?vr3) ?hi_r3 ?k1_r3 ?k2_r3 ?k3_r3 (fun _ _ _ h => h) (Or.inl ⟨?g_r3, ?y_r3⟩) (by assumption) ?r_r3
   case hi_r3 => (simp only [List.getElem?_toArray, List.getElem?_cons_succ, List.getElem?_cons_zero]; rfl)
   case k1_r3 => kernel_rfl
   case k2_r3 => kernel_rfl
   case k3_r3 => kernel_rfl
   case g_r3 => rfl
   case y_r3 => (intro w hSw; (try dsimp only at hSw); first | (go_simp; done) | (go_simp; with_reducible rfl))
   (try simp only [Act.put, List.setIfInBounds_toArray, List.set_cons_zero, List.set_cons_succ])
   refine wpAnyH_take (i := 4) (oi := ?or4) (v := ?vr4) ?hi_r4 ?k1_r4 ?k2_r4 ?k3_r4 (fun _ _ _ h => h) (Or.inl ⟨?g_r4, ?y_r4⟩) (by assumption) ?r_r4
   case hi_r4 => (simp only [List.getElem?_toArray, List.getElem?_cons_succ, List.getElem?_cons_zero]; rfl)
   case k1_r4 => kernel_rfl
   case k2_r4 => kernel_rfl
   case k3_r4 => kernel_rfl
   case g_r4 => rfl
   case y_r4 => (intro w hSw; (try dsimp only at hSw); first | (go_simp; done) | (go_simp; with_reducible rfl))
   (try simp only [Act.put, List.setIfInBounds_toArray, List.set_cons_zero, List.set_cons_succ])
   refine wpAnyH_take (i := 5) (oi := ?or5) (v := ?vr5) ?hi_r5 ?k1_r5 ?k2_r5 ?k3_r5 (fun _ _ _ h => h) (Or.inl ⟨?g_r5, ?y_r5⟩) (by assumption) ?r_r5
   case hi_r5 => (simp only [List.getElem?_toArray, List.getElem?_cons_succ, List.getElem?_cons_zero]; rfl)
   case k1_r5 => kernel_rfl
   case k2_r5 => kernel_rfl
   case k3_r5 => kernel_rfl
   case g_r5 => rfl
   case y_r5 => (intro w hSw; (try dsimp only at hSw); first | (go_simp; done) | (go_simp; with_reducible rfl))
   (try simp only [Act.put, List.setIfInBounds_toArray, List.set_cons_zero, List.set_cons_succ])
   refine wpAnyH_take (i := 6) (oi := ?or6) (v := ?vr6) ?hi_r6 ?k1_r6 ?k2_r6 ?k3_r6 (fun _ _ _ h => h) (Or.inl ⟨?g_r6, ?y_r6⟩) (by assumption) ?r_r6
   case hi_r6 => (simp only [List.getElem?_toArray, List.getElem?_cons_succ, List.getElem?_cons_zero]; rfl)
   case k1_r6 => kernel_rfl
   case k2_r6 => kernel_rfl
   case k3_r6 => kernel_rfl
   case g_r6 => rfl
   case y_r6 => (intro w hSw; (try dsimp only at hSw); first | (go_simp; done) | (go_simp; with_reducible rfl))
   (try simp only [Act.put, List.setIfInBounds_toArray, List.set_cons_zero, List.set_cons_succ])
   refine wpAnyH_take (i := 7) (oi := ?or7) (v := ?vr7) ?hi_r7 ?k1_r7 ?k2_r7 ?k3_r7 (fun _ _ _ h => h) (Or.inl ⟨?g_r7, ?y_r7⟩) (by assumption) ?r_r7
   case hi_r7 => (simp only [List.getElem?_toArray, List.getElem?_cons_succ, List.getElem?_cons_zero]; rfl)
   case k1_r7 => kernel_rfl
   case k2_r7 => kernel_rfl
   case k3_r7 => kernel_rfl
   case g_r7 => rfl
   case y_r7 => (intro w hSw; (try dsimp only at hSw); first | (go_simp; done) | (go_simp; with_reducible rfl))
   (try simp only [Act.put, List.setIfInBounds_toArray, List.set_cons_zero, List.set_cons_succ])
   refine wpAnyH_take (i := 8) (oi := ?or8) (v := ?vr8) ?hi_r8 ?k1_r8 ?k2_r8 ?k3_r8 (fun _ _ _ h => h) (Or.inl ⟨?g_r8, ?y_r8⟩) (by assumption) ?r_r8
   case hi_r8 => (simp only [List.getElem?_toArray, List.getElem?_cons_succ, List.getElem?_cons_zero]; rfl)
   case k1_r8 => kernel_rfl
   case k2_r8 => kernel_rfl
   case k3_r8 => kernel_rfl
   case g_r8 => rfl
   case y_r8 => (intro w hSw; (try dsimp only at hSw); first | (go_simp; done) | (go_simp; with_reducible rfl))
   (try simp only [Act.put, List.setIfInBounds_toArray, List.set_cons_zero, List.set_cons_succ])
   refine wpAnyH_take (i := 9) (oi := ?or9) (v := ?vr9) ?hi_r9 ?k1_r9 ?k2_r9 ?k3_r9 (fun _ _ _ h => h) (Or.inl ⟨?g_r9, ?y_r9⟩) (by assumption) ?r_r9
   case hi_r9 => (simp only [List.getElem?_toArray, List.getElem?_cons_succ, List.getElem?_cons_zero]; rfl)
   case k1_r9 => kernel_rfl
   case k2_r9 => kernel_rfl
   case k3_r9 => kernel_rfl
   case g_r9 => rfl
   case y_r9 => (intro w hSw; (try dsimp only at hSw); first | (go_simp; done) | (go_simp; with_reducible rfl))
   (try simp only [Act.put, List.setIfInBounds_toArray, List.set_cons_zero, List.set_cons_succ])
   refine wpAnyH_take (i := 10) (oi := ?or10) (v := ?vr10) ?hi_r10 ?k1_r10 ?k2_r10 ?k3_r10 (fun _ _ _ h => h) (Or.inl ⟨?g_r10, ?y_r10⟩) (by assumption) ?r_r10
   case hi_r10 => (simp only [List.getElem?_toArray, List.getElem?_cons_succ, List.getElem?_cons_zero]; rfl)
   case k1_r10 => kernel_rfl
   case k2_r10 => kernel_rfl
   case k3_r10 => kernel_rfl
   case g_r10 => rfl
   case y_r10 => (intro w hSw; (try dsimp only at hSw); first | (go_simp; done) | (go_simp; with_reducible rfl))
   (try simp only [Act.put, List.setIfInBounds_toArray, List.set_cons_zero, List.set_cons_succ])
   refine wpAnyH_ready (rs := [11]) ?k1_r11 (by simp) ?r_r11
   case k1_r11 => kernel_rfl
   refine AllReadyH.cons (o := ?or11) ?hi_r11 (fun K hK => ?s_r11) ?m_r11
   case hi_r11 => (simp only [List.getElem?_toArray, List.getElem?_cons_succ, List.getElem?_cons_zero]; rfl)
   case m_r11 => exact AllReadyH.nil
   go_simp
   have HB := Lib.hid (show TB 42 wr wr.heap.size #[.int .i64 0, .int .i64 0, .int .i64 0, .bool false] (wr.alloc (.cells #[.int .i64 0, .int .i64 0, .int .i64 0, .bool false] 42)).drew from ⟨(by with_reducible repeat (first | exact Below.refl _ _ | assumption | apply pw_below_drewN | apply Below.drew | apply below_alloc)), Nat.le_refl _, blk_drew (blk_newS rfl)⟩)
   replace QV := Lib.hid (P2.next (W' := (wr.alloc (.cells #[.int .i64 0, .int .i64 0, .int .i64 0, .bool false] 42)).drew) QV.out (by with_reducible repeat (first | exact Below.refl _ _ | assumption | apply pw_below_drewN | apply Below.drew | apply below_alloc)))
   generalize (wr.alloc (.cells #[.int .i64 0, .int .i64 0, .int .i64 0, .bool false] 42)).drew = W8 at HB QV ⊢
   generalize wr.heap.size = gB at HB ⊢
   refine hK.out _ _ QV.out (fun hHeld => ?_)
   clear hK K
   (try simp only [Act.put, List.setIfInBounds_toArray, List.set_cons_zero, List.set_cons_succ])
   refine wpAnyH_ready (rs := [12]) ?k1_r12 (by simp) ?r_r12
   case k1_r12 => kernel_rfl
   refine AllReadyH.cons (o := ?or12) ?hi_r12 (fun K hK => ?s_r12) ?m_r12
   case hi_r12 => (simp only [List.getElem?_toArray, List.getElem?_cons_succ, List.getElem?_cons_zero]; rfl)
   case m_r12 => exact AllReadyH.nil
   have q0 := (blk_cell HB.out.hx 0).trans rfl
   have q1 := (blk_cell HB.out.hx 1).trans rfl
   have q2 := (blk_cell HB.out.hx 2).trans rfl
   have q3 := (blk_cell HB.out.hx 3).trans rfl
   have z0 := blk_frozen HB.out.hx 0
   have z1 := blk_frozen HB.out.hx 1
   have z2 := blk_frozen HB.out.hx 2
   have z3 := blk_frozen HB.out.hx 3
   go_simp
   have HC := Lib.hid ((((HB.out.set 0 (.int .i64 x.f0)).set 1 (.int .i64 x.f1)).set 2 (.int .i64 0)).set 3 (.bool false))
   refine hK.out _ _ (P2.next ⟨y0, y1, Below.refl _ _⟩ HC.out.b) (fun hHeld => ?_)
   clear hK K q0 q1 q2 q3 z0 z1 z2 z3 QV
   (try simp only [Act.put, List.setIfInBounds_toArray, List.set_cons_zero, List.set_cons_succ])
   refine wpAnyH_done (by kernel_rfl) ?_ _
   refine NoPanic.normal ?_
   refine gen2 (φ := fun W => Exit.then _ _ Exit.normal _ W) (P := fun W => TB 42 wr gB #[.int .i64 x.f0, .int .i64 x.f1, .int .i64 0, .bool false] W) HC.out ?_
   rintro U hU
   have HU := Lib.hid hU
   have Y2 := Lib.hid y2
   have X1 := pw_cell_below hU.b y1
   clear hU HB HC y0 y1 y2
   by_cases h0 : 0 ≤ x.f1
   ·have g1 : decide (0 ≤ x.f1) = true := by simpa using h0
    have g1' : decide (x.f1 ≥ 0) = true := by simpa using h0
    by_cases h1 : x.f1 < (os.length : Int)
    ·have g2 : decide (x.f1 < (os.length : Int)) = true := by simpa using h1
     have QE := Lib.hid (qO_in h0 h1)
     obtain ⟨ad2, e0, s0⟩ := Kd.at_bool (Kd.C_below BO.out HU.out.b) x.f1 h0 h1
     subst e0
     cases hb : rdOf false os x.f1 with
     | false =>
      have QF := Lib.hid (show qO os x.f1 = false by rw [QE.out]; exact hb)
      rw [hb] at s0
      clear hb QE
      have PX := Lib.hid (show pieceG (qO os) x = ⟨x.f0, x.f1, 0, false⟩ by rw [HQ.out, QF.out]; rfl)
      have I6 := Lib.hid (IW.out.next HU.out.b)
      have u0 := (blk_cell HU.out.hx 0).trans rfl
      have u1 := (blk_cell HU.out.hx 1).trans rfl
      have u2 := (blk_cell HU.out.hx 2).trans rfl
      have u3 := (blk_cell HU.out.hx 3).trans rfl
      clear HU QF
      go_wp2_with (first | ((with_reducible refine gate_builtin (b := .append) rfl ?_); at_builtin; go_must (refine Kd.R_append kP (w0 := w) w.heap.size rfl _ _ 38 42 (.agg #[.int .i64 0, .int .i64 0, .int .i64 0, .bool false]) 32 rfl Tryd.underlying38 infoC42 rfl (by decide) (by decide) v ((xs.take kk).map (pieceG (qO os))) (pieceG (qO os) x) [.int .i64 x.f0, .int .i64 x.f1, .int .i64 0, .bool false] (fun _ => True) (fun _ => False) rfl rfl ?aM (fun _ hk => hk.elim) (fun _ _ => trivial) ?aO ?aB ?aS ?aL ?_); (case aM => rw [PX.out]; exact k42_mkM _ _ _ _); (case aO => exact I6.out.row); (case aB => exact I6.out.b); (case aS => exact I6.out.b.size); (case aL => have := LN.out; omega); intro v8 w8 ho8 hb8 hg8 hat8; have I8 := Lib.hid (show LkZ w v8 ((xs.take kk).map (pieceG (qO os)) ++ [pieceG (qO os) x]) w8 from ⟨hb8, ho8⟩); clear ho8 hb8 hg8 hat8))
      go_roundw
      case rel => exact ⟨kk + 1, _, by omega, by go_num, rfl, by rw [TK.out]; exact I8⟩
      case measure =>
       simp only [cntV]
       omega
     | true =>
      have PX := Lib.hid (show pieceG (qO os) x = ⟨x.f0, x.f1, cnt x.f2, true⟩ by rw [HQ.out, QE.out, hb]; rfl)
      rw [hb] at s0
      clear hb QE
      obtain ⟨kc, hkc⟩ := Go.Proofs.YtlcfhmnjdkhkoaaDoorW.PrintWords.Ev.rounds (cnt_ev (okB_valid OX.out) ZX.out.s2)
      have KC := Lib.hid hkc
      clear hkc
      have q3 := (blk_cell HU.out.hx 3).trans rfl
      have z3 := blk_frozen HU.out.hx 3
      go_upto_region 8 with fail
      refine gen2 (φ := fun W => Code.wp _ _ _ _ W) (P := fun W => TB 42 wr gB #[.int .i64 x.f0, .int .i64 x.f1, .int .i64 0, .bool true] W) (HU.out.set 3 _) ?_
      clear q3 z3 HU s0 X1
      rintro U2 hU2
      have HU2 := Lib.hid hU2
      have X2 := pw_cell_below hU2.b Y2.out
      clear hU2
      go_wp2_with fail
      (go_at_call 34; refine (chancelref01_Count.calls kc x.f2 (cnt x.f2) _ KC.out).mono ?_; rintro e w6 ⟨rfl, hb6⟩)
      have HU3 := Lib.hid (HU2.out.next hb6)
      clear hb6 HU2 X2
      have q2 := (blk_cell HU3.out.hx 2).trans rfl
      have z2 := blk_frozen HU3.out.hx 2
      go_upto_region 9 with fail
      refine gen2 (φ := fun W => Code.wp _ _ _ _ W) (P := fun W => TB 42 wr gB #[.int .i64 x.f0, .int .i64 x.f1, .int .i64 (cnt x.f2), .bool true] W) (HU3.out.set 2 _) ?_
      clear q2 z2 HU3
      rintro U4 hU4
      have I6 := Lib.hid (IW.out.next hU4.b)
      have u0 := (blk_cell hU4.hx 0).trans rfl
      have u1 := (blk_cell hU4.hx 1).trans rfl
      have u2 := (blk_cell hU4.hx 2).trans rfl
      have u3 := (blk_cell hU4.hx 3).trans rfl
      clear hU4
      go_wp2_with (first | ((with_reducible refine gate_builtin (b := .append) rfl ?_); at_builtin; go_must (refine Kd.R_append kP (w0 := w) w.heap.size rfl _ _ 38 42 (.agg #[.int .i64 0, .int .i64 0, .int .i64 0, .bool false]) 32 rfl Tryd.underlying38 infoC42 rfl (by decide) (by decide) v ((xs.take kk).map (pieceG (qO os))) (pieceG (qO os) x) [.int .i64 x.f0, .int .i64 x.f1, .int .i64 (cnt x.f2), .bool true] (fun _ => True) (fun _ => False) rfl rfl ?aM (fun _ hk => hk.elim) (fun _ _ => trivial) ?aO ?aB ?aS ?aL ?_); (case aM => rw [PX.out]; exact k42_mkM _ _ _ _); (case aO => exact I6.out.row); (case aB => exact I6.out.b); (case aS => exact I6.out.b.size); (case aL => have := LN.out; omega); intro v8 w8 ho8 hb8 hg8 hat8; have I8 := Lib.hid (show LkZ w v8 ((xs.take kk).map (pieceG (qO os)) ++ [pieceG (qO os) x]) w8 from ⟨hb8, ho8⟩); clear ho8 hb8 hg8 hat8))
      go_roundw
      case rel => exact ⟨kk + 1, _, by omega, by go_num, rfl, by rw [TK.out]; exact I8⟩
      case measure =>
       simp only [cntV]
       omega
    ·have g2 : decide (x.f1 < (os.length : Int)) = false := by simpa using h1
     have QF := Lib.hid (qO_hi h1)
     have PX := Lib.hid (show pieceG (qO os) x = ⟨x.f0, x.f1, 0, false⟩ by rw [HQ.out, QF.out]; rfl)
     have I6 := Lib.hid (IW.out.next HU.out.b)
     have u0 := (blk_cell HU.out.hx 0).trans rfl
     have u1 := (blk_cell HU.out.hx 1).trans rfl
     have u2 := (blk_cell HU.out.hx 2).trans rfl
     have u3 := (blk_cell HU.out.hx 3).trans rfl
     clear HU QF
     go_wp2_with (first | ((with_reducible refine gate_builtin (b := .append) rfl ?_); at_builtin; go_must (refine Kd.R_append kP (w0 := w) w.heap.size rfl _ _ 38 42 (.agg #[.int .i64 0, .int .i64 0, .int .i64 0, .bool false]) 32 rfl Tryd.underlying38 infoC42 rfl (by decide) (by decide) v ((xs.take kk).map (pieceG (qO os))) (pieceG (qO os) x) [.int .i64 x.f0, .int .i64 x.f1, .int .i64 0, .bool false] (fun _ => True) (fun _ => False) rfl rfl ?aM (fun _ hk => hk.elim) (fun _ _ => trivial) ?aO ?aB ?aS ?aL ?_); (case aM => rw [PX.out]; exact k42_mkM _ _ _ _); (case aO => exact I6.out.row); (case aB => exact I6.out.b); (case aS => exact I6.out.b.size); (case aL => have := LN.out; omega); intro v8 w8 ho8 hb8 hg8 hat8; have I8 := Lib.hid (show LkZ w v8 ((xs.take kk).map (pieceG (qO os)) ++ [pieceG (qO os) x]) w8 from ⟨hb8, ho8⟩); clear ho8 hb8 hg8 hat8))
     go_roundw
     case rel => exact ⟨kk + 1, _, by omega, by go_num, rfl, by rw [TK.out]; exact I8⟩
     case measure =>
      simp only [cntV]
      omega
   ·have g1 : decide (0 ≤ x.f1) = false := by simpa using h0
    have g1' : decide (x.f1 ≥ 0) = false := by simpa using h0
    have QF := Lib.hid (qO_lo (os := os) h0)
    have PX := Lib.hid (show pieceG (qO os) x = ⟨x.f0, x.f1, 0, false⟩ by rw [HQ.out, QF.out]; rfl)
    have I6 := Lib.hid (IW.out.next HU.out.b)
    have u0 := (blk_cell HU.out.hx 0).trans rfl
    have u1 := (blk_cell HU.out.hx 1).trans rfl
    have u2 := (blk_cell HU.out.hx 2).trans rfl
    have u3 := (blk_cell HU.out.hx 3).trans rfl
    clear HU QF
    go_wp2_with (first | ((with_reducible refine gate_builtin (b := .append) rfl ?_); at_builtin; go_must (refine Kd.R_append kP (w0 := w) w.heap.size rfl _ _ 38 42 (.agg #[.int .i64 0, .int .i64 0, .int .i64 0, .bool false]) 32 rfl Tryd.underlying38 infoC42 rfl (by decide) (by decide) v ((xs.take kk).map (pieceG (qO os))) (pieceG (qO os) x) [.int .i64 x.f0, .int .i64 x.f1, .int .i64 0, .bool false] (fun _ => True) (fun _ => False) rfl rfl ?aM (fun _ hk => hk.elim) (fun _ _ => trivial) ?aO ?aB ?aS ?aL ?_); (case aM => rw [PX.out]; exact k42_mkM _ _ _ _); (case aO => exact I6.out.row); (case aB => exact I6.out.b); (case aS => exact I6.out.b.size); (case aL => have := LN.out; omega); intro v8 w8 ho8 hb8 hg8 hat8; have I8 := Lib.hid (show LkZ w v8 ((xs.take kk).map (pieceG (qO os)) ++ [pieceG (qO os) x]) w8 from ⟨hb8, ho8⟩); clear ho8 hb8 hg8 hat8))
    go_roundw
    case rel => exact ⟨kk + 1, _, by omega, by go_num, rfl, by rw [TK.out]; exact I8⟩
    case measure =>
     simp only [cntV]
     omega
  ·have d1 : decide ((kk : Int) < (xs.length : Int)) = false := by simp; omega
   go_wp2
   go_ret
   have e : xs.take kk = xs := List.take_of_length_le (by omega)
   rw [e] at IW
   exact ⟨_, rfl, IW.out.row, IW.out.b⟩
end Go.Proofs.YtlcfhmnjdkhkoaaDoor.Seg
/- Views: what is seen of one piece, letter by letter and by its two ends (plain laws). Conditions: texts of at most 2^40 bytes. -/
namespace Go.Proofs.YtlcfhmnjdkhkoaaDoor.Seg
open Go.RowKit Go.Proofs.YtlcfhmnjdkhkoaaDoorPl Go.Maps Go.Proofs.YtlcfhmnjdkhkoaaDoorW.PrintWords Go.Proofs.YtlcfhmnjdkhkoaaDoorW.PrintLast Go.Proofs.YtlcfhmnjdkhkoaaDoorW.PrintMore Go.Proofs.YtlcfhmnjdkhkoaaDoor.Rope Go.Proofs.YtlcfhmnjdkhkoaaDoor.PViewRuns Go.Proofs.YtlcfhmnjdkhkoaaDoor.Pure
set_option linter.unusedVariables false
set_option linter.unusedSimpArgs false
/-- The letters ahead of j that stand in the range. -/
def seenUpto {α : Type} (L : List α) (s f n : Int) : Nat → List α
 | 0 => []
 | j + 1 => if s + (j : Int) ≥ f ∧ s + (j : Int) - f < n then seenUpto L s f n j ++ (L[j]?).toList else seenUpto L s f n j
/-- The first letter that is seen, and the one behind the last. -/
def lo (s f : Int) : Nat := (max (f - s) 0).toNat
def hi (s f n : Int) (w : Nat) : Nat := (min (w : Int) (n - (s - f))).toNat
theorem seen_eq {α : Type} (L : List α) (s f n : Int) : ∀ j, j ≤ L.length → seenUpto L s f n j = (L.take (min j (hi s f n L.length))).drop (lo s f)
 | 0, _ => by simp [seenUpto]
 | j + 1, h => by
  have ih := seen_eq L s f n j (by omega)
  have hj : L[j]? = some L[j] := List.getElem?_eq_getElem (by omega)
  unfold seenUpto
  rw [ih, hj]
  by_cases c : s + (j : Int) ≥ f ∧ s + (j : Int) - f < n
  ·rw [if_pos c]
   have e1 : min (j + 1) (hi s f n L.length) = j + 1 := by unfold hi; omega
   have e2 : min j (hi s f n L.length) = j := by unfold hi; omega
   have e3 : lo s f ≤ j := by unfold lo; omega
   rw [e1, e2, List.take_succ_eq_append_getElem (by omega), List.drop_append_of_le_length (by rw [List.length_take]; omega)]
   rfl
  ·rw [if_neg c]
   by_cases c1 : s + (j : Int) ≥ f
   ·have e : min (j + 1) (hi s f n L.length) = min j (hi s f n L.length) := by unfold hi; omega
    rw [e]
   ·have e3 : j + 1 ≤ lo s f := by unfold lo; omega
    rw [List.drop_eq_nil_of_le (by rw [List.length_take]; omega), List.drop_eq_nil_of_le (by rw [List.length_take]; omega)]
/-- Is any seen? -/
def someUpto (s f n : Int) : Nat → Bool
 | 0 => false
 | j + 1 => decide (s + (j : Int) ≥ f ∧ s + (j : Int) - f < n) || someUpto s f n j
theorem some_iff (s f n : Int) (w : Nat) : ∀ j, j ≤ w → (someUpto s f n j = true ↔ lo s f < min j (hi s f n w))
 | 0, _ => by simp [someUpto]
 | j + 1, h => by
  have ih := some_iff s f n w j (by omega)
  unfold someUpto
  rw [Bool.or_eq_true, decide_eq_true_iff, ih]
  unfold lo hi
  omega
/-- The text of one piece, j letters on. -/
noncomputable def txU (q : Int → Bool) (x : G) (S F N : Int) (j : Nat) : ByteArray := if q x.f1 then txtB (seenUpto (lets x.f2) S F N j) else ⟨#[]⟩
theorem txU_zero (q : Int → Bool) (x : G) (S F N : Int) : txU q x S F N 0 = ⟨#[]⟩ := by unfold txU; split <;> rfl
theorem txU_out {q : Int → Bool} {x : G} {S F N : Int} {j : Nat} (h : ¬ (S + (j : Int) ≥ F ∧ S + (j : Int) - F < N)) : txU q x S F N (j + 1) = txU q x S F N j := by
 unfold txU
 simp only [seenUpto]
 rw [if_neg h]
theorem txU_shut {q : Int → Bool} {x : G} {S F N : Int} {j : Nat} (h : q x.f1 = false) : txU q x S F N j = ⟨#[]⟩ := by unfold txU; rw [h]; rfl
theorem txU_in {q : Int → Bool} {x : G} {S F N : Int} {j : Nat} {c : List UInt8} (hq : q x.f1 = true) (hc : (lets x.f2)[j]? = some c) (h : S + (j : Int) ≥ F ∧ S + (j : Int) - F < N) : txU q x S F N (j + 1) = txU q x S F N j ++ txtB [c] := by
 unfold txU
 rw [hq]
 simp only [if_true, seenUpto]
 rw [if_pos h, hc, txtB_app]
 rfl
theorem flat_sub (L : List (List UInt8)) (a b : Nat) : ((L.take b).drop a).flatten.length ≤ L.flatten.length := by
 have h1 : (L.take b).flatten.length ≤ L.flatten.length := flat_take_le L b
 have h2 : ((L.take b).take a ++ (L.take b).drop a).flatten.length = (L.take b).flatten.length := by rw [List.take_append_drop]
 rw [List.flatten_append, List.length_append] at h2
 omega
theorem txtB_size (l : List (List UInt8)) : (txtB l).size = l.flatten.length := by rw [← toList_size, txtB_list]
theorem txU_size {q : Int → Bool} {x : G} {S F N : Int} {j : Nat} (hv : okB x = true) (hz : x.f2.size ≤ 1099511627776) (hj : j ≤ (lets x.f2).length) : (txU q x S F N j).size ≤ 1099511627776 := by
 unfold txU
 split
 ·rw [txtB_size, seen_eq _ _ _ _ j hj]
  have h1 := flat_sub (lets x.f2) (lo S F) (min j (hi S F N (lets x.f2).length))
  rw [← (lets_ok (okB_valid hv)).2, toList_size] at h1
  omega
 ·show 0 ≤ _; omega
theorem some_out {S F N : Int} {j : Nat} (h : ¬ (S + (j : Int) ≥ F ∧ S + (j : Int) - F < N)) : someUpto S F N (j + 1) = someUpto S F N j := by
 simp only [someUpto]
 rw [show decide (S + (j : Int) ≥ F ∧ S + (j : Int) - F < N) = false from decide_eq_false h, Bool.false_or]
theorem some_in {S F N : Int} {j : Nat} (h : S + (j : Int) ≥ F ∧ S + (j : Int) - F < N) : someUpto S F N (j + 1) = true := by
 simp only [someUpto]
 rw [show decide (S + (j : Int) ≥ F ∧ S + (j : Int) - F < N) = true from decide_eq_true h, Bool.true_or]
/-- At a piece's end: what is laid behind the others. -/
theorem one_end (q : Int → Bool) (x : G) (S F N : Int) (h : q x.f1 = false → True) : oneG q F N S x = if someUpto S F N (wideG q x) = true then [⟨x.f0, x.f1, q x.f1, txU q x S F N (wideG q x)⟩] else [] := by
 have hs := some_iff S F N (wideG q x) (wideG q x) (Nat.le_refl _)
 have e1 : lo S F = (max (F - S) 0).toNat := rfl
 have e2 : hi S F N (wideG q x) = (min (wideG q x : Int) (N - (S - F))).toNat := rfl
 unfold oneG
 by_cases c : max (F - S) 0 < min (wideG q x : Int) (N - (S - F))
 ·rw [if_pos c, if_pos (hs.2 (by rw [e1, e2]; omega))]
  unfold runG txU
  cases hq : q x.f1 with
  | false => rfl
  | true =>
   have ew : wideG q x = (lets x.f2).length := by unfold wideG; rw [hq]; rfl
   simp only [if_true]
   rw [ew] at e2 ⊢
   rw [seen_eq _ _ _ _ _ (Nat.le_refl _), e1, e2, Nat.min_eq_right (by omega)]
 ·rw [if_neg c, if_neg (fun k => c (by have := hs.1 k; rw [e1, e2] at this; omega))]
theorem letter_at {s : ByteArray} (hv : Lib.validD s.data.toList = true) {j : Nat} (hj : j < (lets s).length) : ∃ c, (lets s)[j]? = some c ∧ Lett c := by
 refine ⟨(lets s)[j], List.getElem?_eq_getElem hj, (lets_ok hv).1 _ (List.getElem_mem hj)⟩
end Go.Proofs.YtlcfhmnjdkhkoaaDoor.Seg
/- Views: the walk of the reference's Runs. Conditions: at most 1000 segments, of at most 2^40 bytes, spans, sites. -/
namespace Go.Proofs.YtlcfhmnjdkhkoaaDoor.Seg
open Go.RowKit Go.Proofs.YtlcfhmnjdkhkoaaDoorPl Go.Maps Go.Proofs.YtlcfhmnjdkhkoaaDoorW.PrintWords Go.Proofs.YtlcfhmnjdkhkoaaDoorW.PrintLast Go.Proofs.YtlcfhmnjdkhkoaaDoorW.PrintMore Go.Proofs.YtlcfhmnjdkhkoaaDoor.Rope Go.Proofs.YtlcfhmnjdkhkoaaDoor.PViewRuns Go.Proofs.YtlcfhmnjdkhkoaaDoor.Pure
set_option linter.unusedVariables false
set_option linter.unusedSimpArgs false
/-- What holds all along the outer loop. -/
structure R8Z (w : World) (vp : Value) (ps : List (S42)) (v : Value) (is : List Run) (W : World) : Prop where
 b : Below w.heap.size w W
 prow : Kd.R kP 42 W w.heap.size (fun _ => True) vp ps
 row : Kd.R kR 51 W w.heap.size (fun _ => True) v is
theorem R8Z.next {w W W' : World} {vp : Value} {ps : List (S42)} {v : Value} {is : List Run} (h : R8Z w vp ps v is W) (hb : Below W.heap.size W W') : R8Z w vp ps v is W' := ⟨below_step h.b hb, Kd.R_below h.prow hb, Kd.R_below h.row hb⟩
theorem R8Z.more {w W W' : World} {vp : Value} {ps : List (S42)} {v v' : Value} {is js : List Run} (h : R8Z w vp ps v is W) (hb : Below w.heap.size w W') (hg : W.grownBy W' v.ownBlock) (ho : Kd.R kR 51 W' w.heap.size (fun _ => True) v' js) : R8Z w vp ps v' js W' :=
 ⟨hb, R_moveT rfl h.prow (R_typeD h.row hg (by decide)), ho⟩
theorem pieceG_wide8 {q : Int → Bool} {x : G} (h : okB x = true) (hz : x.f2.size ≤ 1099511627776) : chancelref08_wide.f (pieceG q x).f0 (pieceG q x).f1 (pieceG q x).f2 (pieceG q x).f3 = some (wideG q x : Int) := pieceG_wide h hz
theorem conv_one {c : List UInt8} (hc : Lett c) {W : World} {a : Addr} (cap : Nat) (hx : W.cell? a = some (.int .i32 (rune c))) : (convert 70 9 (.slice (some a) 1 cap)).run Tryd.prog W = .ok (.string (txtB [c])) W := by
 have h := run_convert_runes (P := Tryd.prog) W 70 9 21 a 1 cap [rune c] (Nat.le_refl 1) Tryd.underlying70 Tryd.underlying21 Tryd.underlying9 (fun j hj => by
  have e : j = 0 := by simp at hj; omega
  subst e
  exact hx)
 rw [h, ← txtB_one hc]
 rfl
theorem C_oneR {W : World} {g : Nat} {r : Run} (h : W.heap[g]? = some (.cells #[.int .i64 r.f0, .int .i64 r.f1, .bool r.f2, .string r.f3] 51 (0, 0))) : Kd.C kR W (some ⟨g, 0, none⟩) [r].length [r] := by
 refine ⟨rfl, by (show (1 : Nat) ≤ 9223372036854775807); decide, fun _ => ⟨_, rfl, fun j p hj => ?_⟩⟩
 cases j with
 | succ j => simp at hj
 | zero =>
  simp only [List.getElem?_cons_zero, Option.some.injEq] at hj
  subst hj
  refine ⟨_, rfl, k51_mk W r, fun i u hu => ?_⟩
  rw [add_plain]
  have e : (0 * kR.sz + i) = i := by omega
  rw [e, blk_cell h i]
  simpa using hu
abbrev P3c (a b : Addr) (v0 v1 v2 : Value) (w' : World) : Prop := w'.cell? a = some v0 ∧ w'.cell? ⟨a.block, a.off + 1, none⟩ = some v1 ∧ w'.cell? ⟨b.block, b.off + 3, none⟩ = some v2
theorem P3c.next {W W' : World} {a b : Addr} {v0 v1 v2 : Value} (h : P3c a b v0 v1 v2 W) (hb : Below W.heap.size W W') : P3c a b v0 v1 v2 W' := ⟨pw_cell_below hb h.1, pw_cell_below hb h.2.1, pw_cell_below hb h.2.2⟩
theorem oneG_yes {q : Int → Bool} {F N S : Int} {x : G} {D : Nat} (hD : D = wideG q x) (h : someUpto S F N D = true) : oneG q F N S x = [⟨x.f0, x.f1, q x.f1, txU q x S F N D⟩] := by rw [one_end q x S F N (fun _ => trivial), ← hD, if_pos h]
theorem oneG_no {q : Int → Bool} {F N S : Int} {x : G} {D : Nat} (hD : D = wideG q x) (h : someUpto S F N D = false) : oneG q F N S x = [] := by rw [one_end q x S F N (fun _ => trivial), ← hD, if_neg (by rw [h]; decide)]
attribute [local go_sem] max2_int min2_int max_two min_two
set_option maxRecDepth 1000000 in
set_option maxHeartbeats 8000000 in
theorem runs8_calls (A : Option Addr) (c : Nat) (xs : List G) (B : Option Addr) (d : Nat) (os : List Bool) (fr n : Int) (w : World) (hr : Kd.C kG w A xs.length xs) (hc : xs.length ≤ c) (ho : Kd.C Kd.bool w B os.length os) (hd : os.length ≤ d) (hl : xs.length ≤ 1000) (hlo : os.length ≤ 1099511627776) (hz : ∀ x ∈ xs, Sz x) (hok : ∀ x ∈ xs, okB x = true) (hfr : fr ≤ 9223372036854775807) (hn : -9223372036854775808 ≤ n) :
  Calls Tryd.prog 15 #[.slice A xs.length c, .slice B os.length d, .int .i64 fr, .int .i64 n] w (RetRuns (runsG (qO os) (max fr 0) (min n 200) 0 xs) w) := by
 have HR := Lib.hid hr
 have HZ := Lib.hid hz
 have OK := Lib.hid hok
 have LK := Lib.hid (look8_calls A c xs B d os w hr hc ho hd hl hlo hz hok)
 obtain ⟨q, hq⟩ : ∃ q, q = qO os := ⟨_, rfl⟩
 rw [← hq] at LK ⊢
 clear ho hq
 have WL := Lib.hid (fun x hx => wideG_le (q := q) (hok x hx) (hz x hx).s2)
 have ST := Lib.hid (stG_takes (q := q) (xs := xs) hl WL.out)
 clear hr hz hok
 obtain ⟨F, hF⟩ : ∃ F, F = max fr 0 := ⟨_, rfl⟩
 obtain ⟨N, hN⟩ : ∃ N, N = min n 200 := ⟨_, rfl⟩
 have eF : (if fr < 0 then (0 : Int) else fr) = F := by rw [hF]; split <;> omega
 have eN : (if (200 : Int) < n then (200 : Int) else n) = N := by rw [hN]; split <;> omega
 rw [← hF, ← hN]
 have F0 : Hid (0 ≤ F ∧ F ≤ 9223372036854775807) := Lib.hid (by omega)
 have N0 : Hid (-9223372036854775808 ≤ N ∧ N ≤ 200) := Lib.hid (by omega)
 clear hF hN hfr hn
 go_enter Tryd.func15, Tryd.ntmps15
 go_wp2_with fail
 (go_at_call 13; refine LK.out.mono ?_; rintro e w2 ⟨v2, rfl, hr2, hb2⟩)
 obtain ⟨A8, c8, e8⟩ := Kd.R_slice hr2
 subst e8
 have I1 := Lib.hid (show R8Z w (.slice A8 (xs.map (pieceG q)).length c8) (xs.map (pieceG q)) (.slice none 0 0) [] w2 from ⟨hb2, hr2, Kd.R_nil _ _ _ _ _⟩)
 have LP : (xs.map (pieceG q)).length = xs.length := by rw [List.length_map]
 rw [LP] at I1 ⊢
 clear hr2 hb2 LK
 go_wp2
 go_loopw [12, 10, 11] (fun s9 s3 s11 wr => ∃ (kk : Nat) (v : Value), kk ≤ xs.length ∧ s9 = .int .i64 (kk : Int) ∧ s11 = .int .i64 ((stG q (xs.take kk) : Nat) : Int) ∧ v = s3 ∧ Hid (R8Z w (.slice A8 xs.length c8) (xs.map (pieceG q)) v (runsG q F N 0 (xs.take kk)) wr)) (fun s9 _ _ _ => xs.length - cntV s9)
 case atStart => exact ⟨0, _, Nat.zero_le _, rfl, rfl, rfl, by simpa [runsG] using I1⟩
 case round =>
  clear eF eN
  obtain ⟨kk, v, hkk, rfl, rfl, ev, IW⟩ := hrel
  subst ev
  by_cases hlt : kk < xs.length
  ·have d1 : decide ((kk : Int) < (xs.length : Int)) = true := by simp; omega
   have b1 : (0 : Int) ≤ (kk : Int) := by omega
   have b2 : (kk : Int) < (xs.length : Int) := by omega
   obtain ⟨x, hx⟩ : ∃ x, xs[kk]? = some x := ⟨_, List.getElem?_eq_getElem hlt⟩
   have hpx : (xs.map (pieceG q))[kk]? = some (pieceG q x) := by rw [List.getElem?_map, hx]; rfl
   have hC := Kd.R_reads' IW.out.prow
   have hC2 : Kd.C kP wr A8 xs.length (xs.map (pieceG q)) := by have := hC.2.2; rw [LP] at this; exact this
   obtain ⟨ad8, e8, p0, p1, p2, p3⟩ := at_P hC2 hpx hlt
   subst e8
   obtain ⟨ad, A3, c3, A4, c4, e0, y0, y1, y2, y3, y4, hgr⟩ := at_G HR.out hx hlt
   subst e0
   have YW0 := Lib.hid y0
   have YW1 := Lib.hid y1
   replace y0 := pw_cell_below IW.out.b y0
   replace y1 := pw_cell_below IW.out.b y1
   replace y2 := pw_cell_below IW.out.b y2
   have PX := Lib.hid hpx
   have ZX := Lib.hid (HZ.out x (List.mem_of_getElem? hx))
   have OX := Lib.hid (OK.out x (List.mem_of_getElem? hx))
   have TS := Lib.hid (stG_take (q := q) hx)
   have TR := Lib.hid (runsG_take (q := q) (f := F) (n := N) hx)
   have SX := Lib.hid (ST.out kk)
   have WX := Lib.hid (WL.out x (List.mem_of_getElem? hx))
   have PW := Lib.hid (pieceG_wide8 (q := q) OX.out ZX.out.s2)
   clear hx hpx hC hC2 hgr y3 y4
   obtain ⟨S, hS⟩ : ∃ S : Int, S = ((stG q (xs.take kk) : Nat) : Int) := ⟨_, rfl⟩
   rw [← hS] at TR ⊢
   obtain ⟨D, hD⟩ : ∃ D : Nat, D = wideG q x := ⟨_, rfl⟩
   rw [← hD] at PW
   have S2 : Hid (((stG q (xs.take (kk + 1)) : Nat) : Int) = S + (D : Int)) := Lib.hid (by rw [TS.out, hS, hD]; omega)
   have SB : Hid (0 ≤ S ∧ S ≤ 1099511627776000 ∧ D ≤ 1099511627776) := Lib.hid (by have := SX.out; have := WX.out; omega)
   have HD := Lib.hid hD
   clear hS hD TS SX WX
   generalize hpp : pieceG q x = P at p0 p1 p2 p3 PW
   have HPP := Lib.hid hpp
   clear hpp
   have Y0 := Lib.hid y0
   have Y1 := Lib.hid y1
   have P0 := Lib.hid p0
   have P1 := Lib.hid p1
   have P2_ := Lib.hid p2
   have P3 := Lib.hid p3
   clear y0 y1 p0 p1 p2 p3
   obtain ⟨kl, hkl⟩ := Go.Proofs.YtlcfhmnjdkhkoaaDoorW.PrintWords.Ev.rounds (Letters_ev (okB_valid OX.out) ZX.out.s2)
   have KL := Lib.hid hkl
   clear hkl
   go_wp2_with fail
   (go_at_call 35; refine (chancelref01_Letters.calls kl x.f2 _ _ KL.out).mono ?_; rintro e wi ⟨vl, rfl, hrl, hbl⟩)
   obtain ⟨AL, cL, eL, hcL, hCL⟩ := Kd.R_reads hrl
   have LL : ((lets x.f2).map rune).length = (lets x.f2).length := by rw [List.length_map]
   rw [LL] at eL hcL
   subst eL
   have BL := Lib.hid hbl
   have CL := Lib.hid hCL
   clear hrl hbl y2 hCL
   go_wp2
   go_loopw [16, 14, 15, 11] (fun s16 s14 s15 s11 wr => ∃ jj : Nat, jj ≤ D ∧ s16 = .int .i64 (jj : Int) ∧ s14 = .string (txU q x S F N jj) ∧ s15 = .bool (someUpto S F N jj) ∧ s11 = .int .i64 (S + (jj : Int)) ∧ Hid (Below wi.heap.size wi wr)) (fun s16 _ _ _ _ => D - cntV s16)
   case atStart => exact ⟨0, Nat.zero_le _, rfl, by rw [txU_zero], rfl, by simp, Lib.hid (Below.refl _ _)⟩
   case round =>
    obtain ⟨jj, hjj, rfl, rfl, rfl, rfl, BW⟩ := hrel
    have p0 := pw_cell_below (below_step BL.out BW.out) P0.out
    have p1 := pw_cell_below (below_step BL.out BW.out) P1.out
    have p2 := pw_cell_below (below_step BL.out BW.out) P2_.out
    have p3 := pw_cell_below (below_step BL.out BW.out) P3.out
    go_wp2_with fail
    (go_at_call 36; refine (chancelref08_wide.calls _ _ _ _ (D : Int) _ PW.out).mono ?_; rintro e w5 ⟨rfl, hb5⟩)
    have B5 := Lib.hid (below_step BW.out hb5)
    clear hb5 BW p0 p1 p2 p3
    have p3 := pw_cell_below (below_step BL.out B5.out) P3.out
    by_cases hjd : jj < D
    ·have e1 : decide ((jj : Int) < (D : Int)) = true := by simp; omega
     have w1_ : IntKind.i64.wrap (S + (jj : Int) - F) = S + (jj : Int) - F := IntWalk.i64_in _ (by have := SB.out; have := F0.out; omega)
     have w3_ : IntKind.i64.wrap ((jj : Int) + 1) = (jj : Int) + 1 := IntWalk.i64_in _ (by have := SB.out; omega)
     have w2_ : IntKind.i64.wrap (S + (jj : Int) + 1) = S + (jj : Int) + 1 := IntWalk.i64_in _ (by have := SB.out; omega)
     by_cases v1 : F ≤ S + (jj : Int)
     ·have g1 : decide (F ≤ S + (jj : Int)) = true := by simpa using v1
      by_cases v2 : S + (jj : Int) - F < N
      ·have g2 : decide (S + (jj : Int) - F < N) = true := by simpa using v2
       have VV := Lib.hid (show S + (jj : Int) ≥ F ∧ S + (jj : Int) - F < N from ⟨v1, v2⟩)
       clear v1 v2
       cases hq : q x.f1 with
       | true =>
        obtain rfl : ⟨x.f0, x.f1, cnt x.f2, true⟩ = P := by rw [← HPP.out]; unfold pieceG; rw [hq]; rfl
        have ew : D = (lets x.f2).length := by rw [HD.out]; unfold wideG; rw [hq]; rfl
        obtain ⟨ch, hch, hlc⟩ := letter_at (okB_valid OX.out) (j := jj) (by omega)
        have TX := Lib.hid (txU_in (F := F) (N := N) hq hch VV.out)
        have TZ := txU_size (q := q) (S := S) (F := F) (N := N) (j := jj) OX.out ZX.out.s2 (by omega)
        have jL : jj < (lets x.f2).length := by omega
        obtain ⟨adL, eL, hxL⟩ := Kd.at_int (Kd.C_below CL.out B5.out) (jj : Int) (by omega) (by rw [LL]; omega)
        subst eL
        have er : rd ((lets x.f2).map rune) (jj : Int) = rune ch := by
         unfold rd
         rw [Int.toNat_natCast, List.getD_eq_getElem?_getD, List.getElem?_map, hch]
         rfl
        rw [er, Int.toNat_natCast] at hxL
        have hcv := fun cap => conv_one hlc cap hxL
        have sz : (txtB [ch]).size ≤ 4 := by
         rw [txtB_size]
         have := hlc.le
         simp
         omega
        have nov : ¬ (9223372036854775807 < (txU q x S F N jj).size + (txtB [ch]).size) := by omega
        have c1_ : (0 : Int) ≤ (jj : Int) := by omega
        have c2_ : (jj : Int) ≤ (jj : Int) + 1 := by omega
        have c3_ : (jj : Int) + 1 ≤ (cL : Int) := by omega
        clear hq hch hlc TZ jL er hxL sz HPP ew
        go_wp2
        go_roundw
        case rel => exact ⟨jj + 1, by omega, by go_num, by rw [TX.out], by rw [some_in VV.out], by rw [show S + (jj : Int) + 1 = S + ((jj + 1 : Nat) : Int) by omega], B5⟩
        case measure =>
         simp only [cntV]
         omega
       | false =>
        obtain rfl : ⟨x.f0, x.f1, 0, false⟩ = P := by rw [← HPP.out]; unfold pieceG; rw [hq]; rfl
        have TX := Lib.hid (show txU q x S F N (jj + 1) = txU q x S F N jj by rw [txU_shut hq, txU_shut hq])
        clear hq HPP
        go_wp2
        go_roundw
        case rel => exact ⟨jj + 1, by omega, by go_num, by rw [TX.out], by rw [some_in VV.out], by rw [show S + (jj : Int) + 1 = S + ((jj + 1 : Nat) : Int) by omega], B5⟩
        case measure =>
         simp only [cntV]
         omega
      ·have g2 : decide (S + (jj : Int) - F < N) = false := by simpa using v2
       have VV := Lib.hid (show ¬ (S + (jj : Int) ≥ F ∧ S + (jj : Int) - F < N) from fun h => v2 h.2)
       clear v1 v2
       go_wp2
       go_roundw
       case rel => exact ⟨jj + 1, by omega, by go_num, by rw [txU_out VV.out], by rw [some_out VV.out], by rw [show S + (jj : Int) + 1 = S + ((jj + 1 : Nat) : Int) by omega], B5⟩
       case measure =>
        simp only [cntV]
        omega
     ·have g1 : decide (F ≤ S + (jj : Int)) = false := by simpa using v1
      have VV := Lib.hid (show ¬ (S + (jj : Int) ≥ F ∧ S + (jj : Int) - F < N) from fun h => v1 h.1)
      clear v1
      go_wp2
      go_roundw
      case rel => exact ⟨jj + 1, by omega, by go_num, by rw [txU_out VV.out], by rw [some_out VV.out], by rw [show S + (jj : Int) + 1 = S + ((jj + 1 : Nat) : Int) by omega], B5⟩
      case measure =>
       simp only [cntV]
       omega
    ·obtain rfl : jj = D := by omega
     have e1 : decide ((jj : Int) < (jj : Int)) = false := by simp
     have LN : Hid ((runsG q F N 0 (xs.take kk)).length ≤ 1000) := Lib.hid (by have := runsG_len q F N (xs.take kk) 0; rw [List.length_take] at this; omega)
     cases hsm : someUpto S F N jj with
     | true =>
      have OY := Lib.hid (oneG_yes HD.out hsm)
      have EP := Lib.hid (show P.f3 = q x.f1 by rw [← HPP.out]; rfl)
      clear hsm
      have y0 := pw_cell_below (below_step BL.out B5.out) Y0.out
      have y1 := pw_cell_below (below_step BL.out B5.out) Y1.out
      obtain ⟨tx, htx⟩ : ∃ tx, tx = txU q x S F N jj := ⟨_, rfl⟩
      rw [← htx] at OY ⊢
      clear htx
      go_upto_region 21 with fail
      refine wp_region_noPanic ?_
      refine wp_region_held_drew (S := fun w' => P3c (ad.add (kk * 5)) (ad8.add (kk * 4)) (.int .i64 x.f0) (.int .i64 x.f1) (.bool P.f3) w') ?hm_r ?hS_r (fun hHeld => ?_)
      case hm_r => kernel_rfl
      case hS_r => exact P3c.next ⟨y0, y1, p3⟩ (by with_reducible repeat (first | exact Below.refl _ _ | assumption | apply pw_below_drewN | apply Below.drew | apply below_alloc))
      refine wpAnyH_take (i := 0) (oi := ?or0) (v := ?vr0) ?hi_r0 ?k1_r0 ?k2_r0 ?k3_r0 (fun _ _ _ h => h) (Or.inl ⟨?g_r0, ?y_r0⟩) (by assumption) ?r_r0
      case hi_r0 => (simp only [List.getElem?_toArray, List.getElem?_cons_succ, List.getElem?_cons_zero]; rfl)
      case k1_r0 => kernel_rfl
      case k2_r0 => kernel_rfl
      case k3_r0 => kernel_rfl
      case g_r0 => rfl
      case y_r0 => (intro w hSw; (try dsimp only at hSw); first | (go_simp; done) | (go_simp; with_reducible rfl))
      (try simp only [Act.put, List.setIfInBounds_toArray, List.set_cons_zero, List.set_cons_succ])
      refine wpAnyH_take (i := 1) (oi := ?or1) (v := ?vr1) ?hi_r1 ?k1_r1 ?k2_r1 ?k3_r1 (fun _ _ _ h => h) (Or.inl ⟨?g_r1, ?y_r1⟩) (by assumption) ?r_r1
      case hi_r1 => (simp only [List.getElem?_toArray, List.getElem?_cons_succ, List.getElem?_cons_zero]; rfl)
      case k1_r1 => kernel_rfl
      case k2_r1 => kernel_rfl
      case k3_r1 => kernel_rfl
      case g_r1 => rfl
      case y_r1 => (intro w hSw; (try dsimp only at hSw); first | (go_simp; done) | (go_simp; with_reducible rfl))
      (try simp only [Act.put, List.setIfInBounds_toArray, List.set_cons_zero, List.set_cons_succ])
      refine wpAnyH_take (i := 2) (oi := ?or2) (v := ?vr2) ?hi_r2 ?k1_r2 ?k2_r2 ?k3_r2 (fun _ _ _ h => h) (Or.inl ⟨?g_r2, ?y_r2⟩) (by assumption) ?r_r2
      case hi_r2 => (simp only [List.getElem?_toArray, List.getElem?_cons_succ, List.getElem?_cons_zero]; rfl)
      case k1_r2 => kernel_rfl
      case k2_r2 => kernel_rfl
      case k3_r2 => kernel_rfl
      case g_r2 => rfl
      case y_r2 => (intro w hSw; (try dsimp only at hSw); first | (go_simp; done) | (go_simp; with_reducible rfl))
      (try simp only [Act.put, List.setIfInBounds_toArray, List.set_cons_zero, List.set_cons_succ])
      refine wpAnyH_take (i := 3) (oi := ?or3) (v := ?vr3) ?hi_r3 ?k1_r3 ?k2_r3 ?k3_r3 (fun _ _ _ h => h) (Or.inl ⟨?g_r3, ?y_r3⟩) (by assumption) ?r_r3
      case hi_r3 => (simp only [List.getElem?_toArray, List.getElem?_cons_succ, List.getElem?_cons_zero]; rfl)
      case k1_r3 => kernel_rfl
      case k2_r3 => kernel_rfl
      case k3_r3 => kernel_rfl
      case g_r3 => rfl
      case y_r3 => (intro w hSw; (try dsimp only at hSw); first | (go_simp; done) | (go_simp; with_reducible rfl))
      (try simp only [Act.put, List.setIfInBounds_toArray, List.set_cons_zero, List.set_cons_succ])
      refine wpAnyH_take (i := 4) (oi := ?or4) (v := ?vr4) ?hi_r4 ?k1_r4 ?k2_r4 ?k3_r4 (fun _ _ _ h => h) (Or.inl ⟨?g_r4, ?y_r4⟩) (by assumption) ?r_r4
      case hi_r4 => (simp only [List.getElem?_toArray, List.getElem?_cons_succ, List.getElem?_cons_zero]; rfl)
      case k1_r4 => kernel_rfl
      case k2_r4 => kernel_rfl
      case k3_r4 => kernel_rfl
      case g_r4 => rfl
      case y_r4 => (intro w hSw; (try dsimp only at hSw); first | (go_simp; done) | (go_simp; with_reducible rfl))
      (try simp only [Act.put, List.setIfInBounds_toArray, List.set_cons_zero, List.set_cons_succ])
      refine wpAnyH_take (i := 5) (oi := ?or5) (v := ?vr5) ?hi_r5 ?k1_r5 ?k2_r5 ?k3_r5 (fun _ _ _ h => h) (Or.inl ⟨?g_r5, ?y_r5⟩) (by assumption) ?r_r5
      case hi_r5 => (simp only [List.getElem?_toArray, List.getElem?_cons_succ, List.getElem?_cons_zero]; rfl)
      case k1_r5 => kernel_rfl
      case k2_r5 => kernel_rfl
      case k3_r5 => kernel_rfl
      case g_r5 => rfl
      case y_r5 => (intro w hSw; (try dsimp only at hSw); first | (go_simp; done) | (go_simp; with_reducible rfl))
      (try simp only [Act.put, List.setIfInBounds_toArray, List.set_cons_zero, List.set_cons_succ])
      refine wpAnyH_take (i := 6) (oi := ?or6) (v := ?vr6) ?hi_r6 ?k1_r6 ?k2_r6 ?k3_r6 (fun _ _ _ h => h) (Or.inl ⟨?g_r6, ?y_r6⟩) (by assumption) ?r_r6
      case hi_r6 => (simp only [List.getElem?_toArray, List.getElem?_cons_succ, List.getElem?_cons_zero]; rfl)
      case k1_r6 => kernel_rfl
      case k2_r6 => kernel_rfl
      case k3_r6 => kernel_rfl
      case g_r6 => rfl
      case y_r6 => (intro w hSw; (try dsimp only at hSw); first | (go_simp; done) | (go_simp; with_reducible rfl))
      (try simp only [Act.put, List.setIfInBounds_toArray, List.set_cons_zero, List.set_cons_succ])
      refine wpAnyH_take (i := 7) (oi := ?or7) (v := ?vr7) ?hi_r7 ?k1_r7 ?k2_r7 ?k3_r7 (fun _ _ _ h => h) (Or.inl ⟨?g_r7, ?y_r7⟩) (by assumption) ?r_r7
      case hi_r7 => (simp only [List.getElem?_toArray, List.getElem?_cons_succ, List.getElem?_cons_zero]; rfl)
      case k1_r7 => kernel_rfl
      case k2_r7 => kernel_rfl
      case k3_r7 => kernel_rfl
      case g_r7 => rfl
      case y_r7 => (intro w hSw; (try dsimp only at hSw); first | (go_simp; done) | (go_simp; with_reducible rfl))
      (try simp only [Act.put, List.setIfInBounds_toArray, List.set_cons_zero, List.set_cons_succ])
      refine wpAnyH_take (i := 8) (oi := ?or8) (v := ?vr8) ?hi_r8 ?k1_r8 ?k2_r8 ?k3_r8 (fun _ _ _ h => h) (Or.inl ⟨?g_r8, ?y_r8⟩) (by assumption) ?r_r8
      case hi_r8 => (simp only [List.getElem?_toArray, List.getElem?_cons_succ, List.getElem?_cons_zero]; rfl)
      case k1_r8 => kernel_rfl
      case k2_r8 => kernel_rfl
      case k3_r8 => kernel_rfl
      case g_r8 => rfl
      case y_r8 => (intro w hSw; (try dsimp only at hSw); first | (go_simp; done) | (go_simp; with_reducible rfl))
      (try simp only [Act.put, List.setIfInBounds_toArray, List.set_cons_zero, List.set_cons_succ])
      refine wpAnyH_take (i := 9) (oi := ?or9) (v := ?vr9) ?hi_r9 ?k1_r9 ?k2_r9 ?k3_r9 (fun _ _ _ h => h) (Or.inl ⟨?g_r9, ?y_r9⟩) (by assumption) ?r_r9
      case hi_r9 => (simp only [List.getElem?_toArray, List.getElem?_cons_succ, List.getElem?_cons_zero]; rfl)
      case k1_r9 => kernel_rfl
      case k2_r9 => kernel_rfl
      case k3_r9 => kernel_rfl
      case g_r9 => rfl
      case y_r9 => (intro w hSw; (try dsimp only at hSw); first | (go_simp; done) | (go_simp; with_reducible rfl))
      (try simp only [Act.put, List.setIfInBounds_toArray, List.set_cons_zero, List.set_cons_succ])
      refine wpAnyH_take (i := 10) (oi := ?or10) (v := ?vr10) ?hi_r10 ?k1_r10 ?k2_r10 ?k3_r10 (fun _ _ _ h => h) (Or.inl ⟨?g_r10, ?y_r10⟩) (by assumption) ?r_r10
      case hi_r10 => (simp only [List.getElem?_toArray, List.getElem?_cons_succ, List.getElem?_cons_zero]; rfl)
      case k1_r10 => kernel_rfl
      case k2_r10 => kernel_rfl
      case k3_r10 => kernel_rfl
      case g_r10 => rfl
      case y_r10 => (intro w hSw; (try dsimp only at hSw); first | (go_simp; done) | (go_simp; with_reducible rfl))
      (try simp only [Act.put, List.setIfInBounds_toArray, List.set_cons_zero, List.set_cons_succ])
      refine wpAnyH_take (i := 11) (oi := ?or11) (v := ?vr11) ?hi_r11 ?k1_r11 ?k2_r11 ?k3_r11 (fun _ _ _ h => h) (Or.inl ⟨?g_r11, ?y_r11⟩) (by assumption) ?r_r11
      case hi_r11 => (simp only [List.getElem?_toArray, List.getElem?_cons_succ, List.getElem?_cons_zero]; rfl)
      case k1_r11 => kernel_rfl
      case k2_r11 => kernel_rfl
      case k3_r11 => kernel_rfl
      case g_r11 => rfl
      case y_r11 => (intro w hSw; (try dsimp only at hSw); first | (go_simp; done) | (go_simp; with_reducible rfl))
      (try simp only [Act.put, List.setIfInBounds_toArray, List.set_cons_zero, List.set_cons_succ])
      refine wpAnyH_take (i := 12) (oi := ?or12) (v := ?vr12) ?hi_r12 ?k1_r12 ?k2_r12 ?k3_r12 (fun _ _ _ h => h) (Or.inl ⟨?g_r12, ?y_r12⟩) (by assumption) ?r_r12
      case hi_r12 => (simp only [List.getElem?_toArray, List.getElem?_cons_succ, List.getElem?_cons_zero]; rfl)
      case k1_r12 => kernel_rfl
      case k2_r12 => kernel_rfl
      case k3_r12 => kernel_rfl
      case g_r12 => rfl
      case y_r12 => (intro w hSw; (try dsimp only at hSw); first | (go_simp; done) | (go_simp; with_reducible rfl))
      (try simp only [Act.put, List.setIfInBounds_toArray, List.set_cons_zero, List.set_cons_succ])
      refine wpAnyH_take (i := 13) (oi := ?or13) (v := ?vr13) ?hi_r13 ?k1_r13 ?k2_r13 ?k3_r13 (fun _ _ _ h => h) (Or.inl ⟨?g_r13, ?y_r13⟩) (by assumption) ?r_r13
      case hi_r13 => (simp only [List.getElem?_toArray, List.getElem?_cons_succ, List.getElem?_cons_zero]; rfl)
      case k1_r13 => kernel_rfl
      case k2_r13 => kernel_rfl
      case k3_r13 => kernel_rfl
      case g_r13 => rfl
      case y_r13 => (intro w hSw; (try dsimp only at hSw); first | (go_simp; done) | (go_simp; with_reducible rfl))
      (try simp only [Act.put, List.setIfInBounds_toArray, List.set_cons_zero, List.set_cons_succ])
      refine wpAnyH_take (i := 14) (oi := ?or14) (v := ?vr14) ?hi_r14 ?k1_r14 ?k2_r14 ?k3_r14 (fun _ _ _ h => h) (Or.inl ⟨?g_r14, ?y_r14⟩) (by assumption) ?r_r14
      case hi_r14 => (simp only [List.getElem?_toArray, List.getElem?_cons_succ, List.getElem?_cons_zero]; rfl)
      case k1_r14 => kernel_rfl
      case k2_r14 => kernel_rfl
      case k3_r14 => kernel_rfl
      case g_r14 => rfl
      case y_r14 => (intro w hSw; (try dsimp only at hSw); first | (go_simp; done) | (go_simp; with_reducible rfl))
      (try simp only [Act.put, List.setIfInBounds_toArray, List.set_cons_zero, List.set_cons_succ])
      refine wpAnyH_take (i := 15) (oi := ?or15) (v := ?vr15) ?hi_r15 ?k1_r15 ?k2_r15 ?k3_r15 (fun _ _ _ h => h) (Or.inl ⟨?g_r15, ?y_r15⟩) (by assumption) ?r_r15
      case hi_r15 => (simp only [List.getElem?_toArray, List.getElem?_cons_succ, List.getElem?_cons_zero]; rfl)
      case k1_r15 => kernel_rfl
      case k2_r15 => kernel_rfl
      case k3_r15 => kernel_rfl
      case g_r15 => rfl
      case y_r15 => (intro w hSw; (try dsimp only at hSw); first | (go_simp; done) | (go_simp; with_reducible rfl))
      (try simp only [Act.put, List.setIfInBounds_toArray, List.set_cons_zero, List.set_cons_succ])
      refine wpAnyH_take (i := 16) (oi := ?or16) (v := ?vr16) ?hi_r16 ?k1_r16 ?k2_r16 ?k3_r16 (fun _ _ _ h => h) (Or.inl ⟨?g_r16, ?y_r16⟩) (by assumption) ?r_r16
      case hi_r16 => (simp only [List.getElem?_toArray, List.getElem?_cons_succ, List.getElem?_cons_zero]; rfl)
      case k1_r16 => kernel_rfl
      case k2_r16 => kernel_rfl
      case k3_r16 => kernel_rfl
      case g_r16 => rfl
      case y_r16 => (intro w hSw; (try dsimp only at hSw); first | (go_simp; done) | (go_simp; with_reducible rfl))
      (try simp only [Act.put, List.setIfInBounds_toArray, List.set_cons_zero, List.set_cons_succ])
      refine wpAnyH_take (i := 17) (oi := ?or17) (v := ?vr17) ?hi_r17 ?k1_r17 ?k2_r17 ?k3_r17 (fun _ _ _ h => h) (Or.inl ⟨?g_r17, ?y_r17⟩) (by assumption) ?r_r17
      case hi_r17 => (simp only [List.getElem?_toArray, List.getElem?_cons_succ, List.getElem?_cons_zero]; rfl)
      case k1_r17 => kernel_rfl
      case k2_r17 => kernel_rfl
      case k3_r17 => kernel_rfl
      case g_r17 => rfl
      case y_r17 => (intro w hSw; (try dsimp only at hSw); first | (go_simp; done) | (go_simp; with_reducible rfl))
      (try simp only [Act.put, List.setIfInBounds_toArray, List.set_cons_zero, List.set_cons_succ])
      refine wpAnyH_ready (rs := [18]) ?k1_r18 (by simp) ?r_r18
      case k1_r18 => kernel_rfl
      refine AllReadyH.cons (o := ?or18) ?hi_r18 (fun K hK => ?s_r18) ?m_r18
      case hi_r18 => (simp only [List.getElem?_toArray, List.getElem?_cons_succ, List.getElem?_cons_zero]; rfl)
      case m_r18 => exact AllReadyH.nil
      go_simp
      have HB := Lib.hid (show TB 51 w5 w5.heap.size #[.int .i64 x.f0, .int .i64 x.f1, .bool P.f3, .string tx] (w5.alloc (.cells #[.int .i64 x.f0, .int .i64 x.f1, .bool P.f3, .string tx] 51)).drew from ⟨(by with_reducible repeat (first | exact Below.refl _ _ | assumption | apply pw_below_drewN | apply Below.drew | apply below_alloc)), Nat.le_refl _, blk_drew (blk_newS rfl)⟩)
      generalize (w5.alloc (.cells #[.int .i64 x.f0, .int .i64 x.f1, .bool P.f3, .string tx] 51)).drew = W8 at HB ⊢
      generalize w5.heap.size = gB at HB ⊢
      have I8 := Lib.hid (IW.out.next (below_step BL.out (below_step B5.out HB.out.b)))
      refine hK.out _ _ (P3c.next ⟨y0, y1, p3⟩ HB.out.b) (fun hHeld => ?_)
      clear hK K
      (try simp only [Act.put, List.setIfInBounds_toArray, List.set_cons_zero, List.set_cons_succ])
      refine wpAnyH_ready (rs := [19]) ?k1_r19 (by simp) ?r_r19
      case k1_r19 => kernel_rfl
      refine AllReadyH.cons (o := ?or19) ?hi_r19 (fun K hK => ?s_r19) ?m_r19
      case hi_r19 => (simp only [List.getElem?_toArray, List.getElem?_cons_succ, List.getElem?_cons_zero]; rfl)
      case m_r19 => exact AllReadyH.nil
      (refine Kd.R_append_rows_step kR (w0 := w) (Rr := kR.K W8) w.heap.size ?hw_a (.tmp 71) (.tmp 89) 34 51 (.agg #[.int .i64 0, .int .i64 0, .bool false, .string ⟨#[]⟩]) 40 ?ho_a Tryd.underlying34 infoC51 rfl ?hp1_a ?hp2_a v (runsG q F N 0 (xs.take kk)) [⟨x.f0, x.f1, P.f3, tx⟩] _ 1 1 (fun _ => True) (fun _ => False) rfl rfl ?h1_a ?h2_a (fun _ _ h => by rw [k51_open h]; exact k51_mkM _ _ _ _) (fun _ h => h.elim) (fun _ _ => trivial) ?h3_a ?h4_a ?h5_a ?_); (case ho_a => rfl); (case hw_a => rfl); (case hp1_a => decide); (case hp2_a => decide); (case h1_a => exact I8.out.row); (case h2_a => exact C_oneR (r := ⟨x.f0, x.f1, P.f3, tx⟩) HB.out.hx); (case h3_a => exact I8.out.b); (case h4_a => exact I8.out.b.size); (case h5_a => have := LN.out; simp; omega)
      intro v8 w8 ho8 hb8 hg8 hat8
      have I9 := Lib.hid (I8.out.more hb8 hg8 ho8)
      obtain ⟨ad9, e9, _, _, _, p9⟩ := at_P (show Kd.C kP w8 (some ad8) xs.length (xs.map (pieceG q)) by have := (Kd.R_reads' I9.out.prow).2.2; rw [LP] at this; exact this) PX.out hlt
      obtain rfl : ad8 = ad9 := Option.some.inj e9
      have Q8 := Lib.hid (show P3c (ad.add (kk * 5)) (ad8.add (kk * 4)) (.int .i64 x.f0) (.int .i64 x.f1) (.bool P.f3) w8 from ⟨pw_cell_below hb8 YW0.out, pw_cell_below hb8 YW1.out, by rw [← HPP.out]; exact p9⟩)
      clear ho8 hb8 hg8 hat8
      refine hK.out _ _ Q8.out (fun hHeld => ?_)
      clear hK K
      (try simp only [Act.put, List.setIfInBounds_toArray, List.set_cons_zero, List.set_cons_succ])
      refine wpAnyH_take (i := 20) (oi := ?or20) (v := ?vr20) ?hi_r20 ?k1_r20 ?k2_r20 ?k3_r20 (fun _ _ _ h => h) (Or.inl ⟨?g_r20, ?y_r20⟩) (by assumption) ?r_r20
      case hi_r20 => (simp only [List.getElem?_toArray, List.getElem?_cons_succ, List.getElem?_cons_zero]; rfl)
      case k1_r20 => kernel_rfl
      case k2_r20 => kernel_rfl
      case k3_r20 => kernel_rfl
      case g_r20 => rfl
      case y_r20 => (intro w hSw; (try dsimp only at hSw); first | (go_simp; done) | (go_simp; with_reducible rfl))
      (try simp only [Act.put, List.setIfInBounds_toArray, List.set_cons_zero, List.set_cons_succ])
      refine wpAnyH_done (by kernel_rfl) ?_ _
      refine NoPanic.normal ?_
      clear Q8
      go_wp2
      go_roundw
      case rel => exact ⟨kk + 1, _, by omega, by go_num, by rw [S2.out], rfl, by rw [TR.out, OY.out, ← EP.out]; exact I9⟩
      case measure =>
       simp only [cntV]
       omega
     | false =>
      have OY := Lib.hid (oneG_no HD.out hsm)
      have I9 := Lib.hid (IW.out.next (below_step BL.out B5.out))
      clear hsm
      go_wp2
      go_roundw
      case rel => exact ⟨kk + 1, _, by omega, by go_num, by rw [S2.out], rfl, by rw [TR.out, OY.out, List.append_nil]; exact I9⟩
      case measure =>
       simp only [cntV]
       omega
  ·have d1 : decide ((kk : Int) < (xs.length : Int)) = false := by simp; omega
   go_wp2
   go_ret
   have e : xs.take kk = xs := List.take_of_length_le (by omega)
   rw [e] at IW
   exact ⟨_, rfl, IW.out.row, IW.out.b⟩
end Go.Proofs.YtlcfhmnjdkhkoaaDoor.Seg
/- Views: the laws' functions that tell which labels are open; a document of one segment; what the three laws share. Conditions: at most 2^40 bools. -/
namespace Go.Proofs.YtlcfhmnjdkhkoaaDoor.Seg
open Go.RowKit Go.Proofs.YtlcfhmnjdkhkoaaDoorPl Go.Maps Go.Proofs.YtlcfhmnjdkhkoaaDoorW.PrintWords Go.Proofs.YtlcfhmnjdkhkoaaDoorW.PrintLast Go.Proofs.YtlcfhmnjdkhkoaaDoorW.PrintMore Go.Proofs.YtlcfhmnjdkhkoaaDoor.Rope Go.Proofs.YtlcfhmnjdkhkoaaDoor.PViewRuns Go.Proofs.YtlcfhmnjdkhkoaaDoor.Pure
set_option linter.unusedVariables false
set_option linter.unusedSimpArgs false
set_option maxRecDepth 100000 in
set_option maxHeartbeats 800000 in
theorem const_ViewRuns (n : Int) (w : World) : Calls Tryd.prog 8 #[.int .i64 n] w fun e w' => e = .returned (.bool true) ∧ Below w.heap.size w w' := by
 go_enter Tryd.func8, Tryd.ntmps8
 go_wp2
 go_ret
 exact ⟨rfl, Below.refl _ _⟩
theorem pconst_ViewRuns (w : World) : PredL w 8 #[] (fun _ => true) := fun W n _ => const_ViewRuns n W
set_option maxRecDepth 100000 in
set_option maxHeartbeats 800000 in
theorem open_ViewRuns (os : List Bool) (B : Option Addr) (d g : Nat) (n : Int) (w : World) (hx : w.cell? ⟨g, 0, none⟩ = some (.slice B os.length d)) (hB : Kd.C Kd.bool w B os.length os) : Calls Tryd.prog 11 #[.int .i64 n, .pointer (some ⟨g, 0, none⟩)] w fun e w' => e = .returned (.bool (qO os n)) ∧ Below w.heap.size w w' := by
 have HB := Lib.hid hB
 clear hB
 go_enter Tryd.func11, Tryd.ntmps11
 by_cases h0 : 0 ≤ n
 ·have g1 : decide (0 ≤ n) = true := by simpa using h0
  by_cases h1 : n < (os.length : Int)
  ·have g2 : decide (n < (os.length : Int)) = true := by simpa using h1
   rw [qO_in h0 h1]
   obtain ⟨ad, e0, s0⟩ := Kd.at_bool HB.out n h0 h1
   subst e0
   generalize rdOf false os n = b at s0
   go_wp2
   go_ret
   exact ⟨rfl, Below.refl _ _⟩
  ·have g2 : decide (n < (os.length : Int)) = false := by simpa using h1
   rw [qO_hi h1]
   clear h1
   go_wp2
   go_ret
   exact ⟨rfl, Below.refl _ _⟩
 ·have g1 : decide (0 ≤ n) = false := by simpa using h0
  rw [qO_lo h0]
  clear h0
  go_wp2
  go_ret
  exact ⟨rfl, Below.refl _ _⟩
theorem popen_ViewRuns {os : List Bool} {B : Option Addr} {d g : Nat} {w : World} (hx : w.cell? ⟨g, 0, none⟩ = some (.slice B os.length d)) (hB : Kd.C Kd.bool w B os.length os) : PredL w 11 #[.pointer (some ⟨g, 0, none⟩)] (qO os) := fun W n hb => open_ViewRuns os B d g n W (pw_cell_below hb hx) (Kd.C_below hB hb)
theorem eg1_ViewRuns : ∀ args w, (callFunc 8 args).run Tryd.prog w = .ok (.enter 8 args) w := fun args w => by kernel_rfl
theorem eg2_ViewRuns : ∀ args w, (callFunc 11 args).run Tryd.prog w = .ok (.enter 11 args) w := fun args w => by kernel_rfl
set_option maxRecDepth 100000 in
set_option maxHeartbeats 800000 in
theorem const_ViewHides (n : Int) (w : World) : Calls Tryd.prog 17 #[.int .i64 n] w fun e w' => e = .returned (.bool false) ∧ Below w.heap.size w w' := by
 go_enter Tryd.func17, Tryd.ntmps17
 go_wp2
 go_ret
 exact ⟨rfl, Below.refl _ _⟩
theorem pconst_ViewHides (w : World) : PredL w 17 #[] (fun _ => false) := fun W n _ => const_ViewHides n W
set_option maxRecDepth 100000 in
set_option maxHeartbeats 800000 in
theorem open_ViewHides (os : List Bool) (B : Option Addr) (d g : Nat) (n : Int) (w : World) (hx : w.cell? ⟨g, 0, none⟩ = some (.slice B os.length d)) (hB : Kd.C Kd.bool w B os.length os) : Calls Tryd.prog 18 #[.int .i64 n, .pointer (some ⟨g, 0, none⟩)] w fun e w' => e = .returned (.bool (qO os n)) ∧ Below w.heap.size w w' := by
 have HB := Lib.hid hB
 clear hB
 go_enter Tryd.func18, Tryd.ntmps18
 by_cases h0 : 0 ≤ n
 ·have g1 : decide (0 ≤ n) = true := by simpa using h0
  by_cases h1 : n < (os.length : Int)
  ·have g2 : decide (n < (os.length : Int)) = true := by simpa using h1
   rw [qO_in h0 h1]
   obtain ⟨ad, e0, s0⟩ := Kd.at_bool HB.out n h0 h1
   subst e0
   generalize rdOf false os n = b at s0
   go_wp2
   go_ret
   exact ⟨rfl, Below.refl _ _⟩
  ·have g2 : decide (n < (os.length : Int)) = false := by simpa using h1
   rw [qO_hi h1]
   clear h1
   go_wp2
   go_ret
   exact ⟨rfl, Below.refl _ _⟩
 ·have g1 : decide (0 ≤ n) = false := by simpa using h0
  rw [qO_lo h0]
  clear h0
  go_wp2
  go_ret
  exact ⟨rfl, Below.refl _ _⟩
theorem popen_ViewHides {os : List Bool} {B : Option Addr} {d g : Nat} {w : World} (hx : w.cell? ⟨g, 0, none⟩ = some (.slice B os.length d)) (hB : Kd.C Kd.bool w B os.length os) : PredL w 18 #[.pointer (some ⟨g, 0, none⟩)] (qO os) := fun W n hb => open_ViewHides os B d g n W (pw_cell_below hb hx) (Kd.C_below hB hb)
theorem eg1_ViewHides : ∀ args w, (callFunc 17 args).run Tryd.prog w = .ok (.enter 17 args) w := fun args w => by kernel_rfl
theorem eg2_ViewHides : ∀ args w, (callFunc 18 args).run Tryd.prog w = .ok (.enter 18 args) w := fun args w => by kernel_rfl
set_option maxRecDepth 100000 in
set_option maxHeartbeats 800000 in
theorem const_ViewWindows (n : Int) (w : World) : Calls Tryd.prog 20 #[.int .i64 n] w fun e w' => e = .returned (.bool true) ∧ Below w.heap.size w w' := by
 go_enter Tryd.func20, Tryd.ntmps20
 go_wp2
 go_ret
 exact ⟨rfl, Below.refl _ _⟩
theorem pconst_ViewWindows (w : World) : PredL w 20 #[] (fun _ => true) := fun W n _ => const_ViewWindows n W
set_option maxRecDepth 100000 in
set_option maxHeartbeats 800000 in
theorem open_ViewWindows (os : List Bool) (B : Option Addr) (d g : Nat) (n : Int) (w : World) (hx : w.cell? ⟨g, 0, none⟩ = some (.slice B os.length d)) (hB : Kd.C Kd.bool w B os.length os) : Calls Tryd.prog 21 #[.int .i64 n, .pointer (some ⟨g, 0, none⟩)] w fun e w' => e = .returned (.bool (qO os n)) ∧ Below w.heap.size w w' := by
 have HB := Lib.hid hB
 clear hB
 go_enter Tryd.func21, Tryd.ntmps21
 by_cases h0 : 0 ≤ n
 ·have g1 : decide (0 ≤ n) = true := by simpa using h0
  by_cases h1 : n < (os.length : Int)
  ·have g2 : decide (n < (os.length : Int)) = true := by simpa using h1
   rw [qO_in h0 h1]
   obtain ⟨ad, e0, s0⟩ := Kd.at_bool HB.out n h0 h1
   subst e0
   generalize rdOf false os n = b at s0
   go_wp2
   go_ret
   exact ⟨rfl, Below.refl _ _⟩
  ·have g2 : decide (n < (os.length : Int)) = false := by simpa using h1
   rw [qO_hi h1]
   clear h1
   go_wp2
   go_ret
   exact ⟨rfl, Below.refl _ _⟩
 ·have g1 : decide (0 ≤ n) = false := by simpa using h0
  rw [qO_lo h0]
  clear h0
  go_wp2
  go_ret
  exact ⟨rfl, Below.refl _ _⟩
theorem popen_ViewWindows {os : List Bool} {B : Option Addr} {d g : Nat} {w : World} (hx : w.cell? ⟨g, 0, none⟩ = some (.slice B os.length d)) (hB : Kd.C Kd.bool w B os.length os) : PredL w 21 #[.pointer (some ⟨g, 0, none⟩)] (qO os) := fun W n hb => open_ViewWindows os B d g n W (pw_cell_below hb hx) (Kd.C_below hB hb)
theorem eg1_ViewWindows : ∀ args w, (callFunc 20 args).run Tryd.prog w = .ok (.enter 20 args) w := fun args w => by kernel_rfl
theorem eg2_ViewWindows : ∀ args w, (callFunc 21 args).run Tryd.prog w = .ok (.enter 21 args) w := fun args w => by kernel_rfl

/-- The one segment of the laws' first lines. -/
def tab : G := ⟨1, 0, ⟨#[97, 98]⟩, [], []⟩
theorem tab_letts : Letts (one [97, 98]) ∧ tab.f2.data.toList = (one [97, 98]).flatten := ⟨one_letts (by decide), one_flat [97, 98]⟩
theorem tab_lets : lets tab.f2 = one [97, 98] := lets_eq tab_letts.1 tab_letts.2
theorem tab_ok : okB tab = true := by
 have h : Lib.validD tab.f2.data.toList = true := (validD_iff _).2 ⟨one [97, 98], tab_letts.1, tab_letts.2⟩
 unfold okB
 rw [h]
 rfl
theorem tabs_ok : okS [tab] := ⟨fun x hx => by rw [List.mem_singleton.1 hx]; exact tab_ok, by decide⟩
theorem tabs_sz : ∀ x ∈ [tab], Sz x := fun x hx => by rw [List.mem_singleton.1 hx]; exact ⟨by decide, by decide, by decide⟩
theorem tabs_wf : ∀ x ∈ [tab], (Lit.int .i64 x.f0).wf = true := fun x hx => by rw [List.mem_singleton.1 hx]; rfl
theorem C_oneG {W : World} {g : Nat} (h : W.heap[g]? = some (.cells #[.int .i64 1, .int .i64 0, .string ⟨#[97, 98]⟩, .slice none 0 0, .slice none 0 0] 33 (0, 0))) : Kd.C kG W (some ⟨g, 0, none⟩) [tab].length [tab] := by
 refine ⟨rfl, by (show (1 : Nat) ≤ 9223372036854775807); decide, fun _ => ⟨_, rfl, fun j p hj => ?_⟩⟩
 cases j with
 | succ j => simp at hj
 | zero =>
  simp only [List.getElem?_cons_zero, Option.some.injEq] at hj
  subst hj
  refine ⟨_, rfl, k33_mk W tab (A3 := none) (c3 := 0) (A4 := none) (c4 := 0) ?_ ?_ ?_ ?_, fun i u hu => ?_⟩
  ·exact Nat.le_refl _
  ·exact Kd.C_nil _ _
  ·exact Nat.le_refl _
  ·exact Kd.C_nil _ _
  ·rw [add_plain]
   have e : (0 * kG.sz + i) = i := by omega
   rw [e, blk_cell h i]
   simp only [List.getElem?_toArray]
   exact hu
theorem shLoad_good (f : Bool) (A : Option Addr) (c : Nat) (xs : List G) (w : World) (hT : Tabs w) (hr : Kd.C kG w A xs.length xs) (hz : ∀ x ∈ xs, Sz x) (hl : xs.length ≤ 1099511627776) (hwf : ∀ x ∈ xs, (Lit.int .i64 x.f0).wf = true) (hok : okS xs) :
  Calls Tryd.prog 6 #[.bool f, .slice A xs.length c] w fun e w' => ∃ A c xss, e = .returned (.tuple #[.agg #[.bool f, .slice A xss.length c], .bool true]) ∧ Sh w' A c xss xs ∧ Below w.heap.size w w' := by
 refine (shLoad_calls f A c xs w hT hr hz hl hwf).mono ?_
 rintro e w' (⟨_, A', c', xss, rfl, hs, hb⟩ | ⟨hn, _⟩)
 ·exact ⟨A', c', xss, by rw [hs.len], hs, hb⟩
 ·exact absurd hok hn
theorem tab_runs : runsG (fun _ => true) 1 1 0 [tab] = [⟨1, 0, true, ⟨#[98]⟩⟩] := by
 have hw : wideG (fun _ => true) tab = 2 := by unfold wideG; rw [tab_lets]; rfl
 simp only [runsG, List.append_nil]
 unfold oneG
 rw [hw, if_pos (by decide)]
 unfold runG
 rw [tab_lets]
 rfl
end Go.Proofs.YtlcfhmnjdkhkoaaDoor.Seg
