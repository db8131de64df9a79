/- Segments: letters of a text, places, small walks. Conditions: texts of at most 2^40 bytes. -/
import Derived.Test.YtjphmebhofkhcaaDoorGE
import Derived.Test.YtjphmebhofkhcaaDoorGD
import Derived.Test.YtjphmebhofkhcaaDoorGHeld
namespace Go.Proofs.YtjphmebhofkhcaaDoor.Seg
open Go.RowKit Go.Proofs.YtjphmebhofkhcaaDoorPl Go.Proofs.YtjphmebhofkhcaaDoorW.PrintWords Go.Proofs.YtjphmebhofkhcaaDoorW.PrintLast Go.Proofs.YtjphmebhofkhcaaDoorW.PrintMore Go.Proofs.YtjphmebhofkhcaaDoor.Rope Go.Proofs.YtjphmebhofkhcaaDoor.PSegAll Go.Proofs.YtjphmebhofkhcaaDoor.Pure
set_option linter.unusedVariables false
set_option linter.unusedSimpArgs false
attribute [local go_sem] max2_int min2_int max_two min_two
theorem letts_uniq : ∀ {cs ds : List (List UInt8)}, Letts cs → Letts ds → cs.flatten = ds.flatten → cs = ds
 | [], [], _, _, _ => rfl
 | [], d :: r, _, hd, h => by
  have h1 := (hd d (by simp)).pos
  have h2 := congrArg List.length h
  rw [List.flatten_cons, List.length_append] at h2
  simp only [List.flatten_nil, List.length_nil] at h2
  omega
 | c :: r, [], hc, _, h => by
  have h1 := (hc c (by simp)).pos
  have h2 := congrArg List.length h
  rw [List.flatten_cons, List.length_append] at h2
  simp only [List.flatten_nil, List.length_nil] at h2
  omega
 | c :: r, d :: q, hc, hd, h => by
  have e1 := lett_append (hc c (by simp)) r.flatten
  have e2 := lett_append (hd d (by simp)) q.flatten
  rw [List.flatten_cons, List.flatten_cons] at h
  rw [h, e2] at e1
  have el : c.length = d.length := by rw [← (hc c (by simp)).1, ← (hd d (by simp)).1, e1]
  have ec : c = d := by
   have := congrArg (List.take c.length) h
   rw [List.take_left, el, List.take_left] at this
   exact this
  subst ec
  have er := List.append_cancel_left h
  rw [letts_uniq (fun x hx => hc x (by simp [hx])) (fun x hx => hd x (by simp [hx])) er]
/-- The letters of a right text. -/
noncomputable def lets (s : ByteArray) : List (List UInt8) := open Classical in if h : ∃ cs, Letts cs ∧ s.data.toList = cs.flatten then Classical.choose h else []
theorem lets_eq {s : ByteArray} {cs : List (List UInt8)} (hl : Letts cs) (h : s.data.toList = cs.flatten) : lets s = cs := by
 have hx : ∃ cs, Letts cs ∧ s.data.toList = cs.flatten := ⟨cs, hl, h⟩
 unfold lets
 rw [dif_pos hx]
 have h2 := Classical.choose_spec hx
 exact letts_uniq h2.1 hl (h2.2.symm.trans h)
theorem lets_ok {s : ByteArray} (hv : Lib.validD s.data.toList = true) : Letts (lets s) ∧ s.data.toList = (lets s).flatten := by
 obtain ⟨cs, hl, h⟩ := (validD_iff _).1 hv
 rw [lets_eq hl h]
 exact ⟨hl, h⟩
theorem cnt_lets {s : ByteArray} (hv : Lib.validD s.data.toList = true) (hs : s.size ≤ 1099511627776) : cnt s = ((lets s).length : Int) := cnt_eq (lets_ok hv).1 (lets_ok hv).2 hs
theorem lets_le {s : ByteArray} (hv : Lib.validD s.data.toList = true) : (lets s).length ≤ s.size := by
 have k := letts_le _ (lets_ok hv).1
 rw [← (lets_ok hv).2, toList_size] at k
 exact k
/-- A text of letters. -/
def ofL (cs : List (List UInt8)) : ByteArray := ⟨cs.flatten.toArray⟩
theorem ofL_data (cs : List (List UInt8)) : (ofL cs).data.toList = cs.flatten := by unfold ofL; simp
theorem ofL_eq {s : ByteArray} {cs : List (List UInt8)} (h : s.data.toList = cs.flatten) : s = ofL cs := by
 apply ByteArray.ext
 apply Array.ext'
 rw [h, ofL_data]
theorem ofL_lets {s : ByteArray} (hv : Lib.validD s.data.toList = true) : ofL (lets s) = s := (ofL_eq (lets_ok hv).2).symm
noncomputable def putT (s : ByteArray) (a : Int) (t : ByteArray) : ByteArray := ofL ((lets s).take a.toNat ++ lets t ++ (lets s).drop a.toNat)
/-- A place within a text. -/
def clampI (c a : Int) : Int := if c < (if a < 0 then 0 else a) then c else (if a < 0 then 0 else a)
theorem clamp_in {c a : Int} (h : 0 ≤ c) : 0 ≤ clampI c a ∧ clampI c a ≤ c := by unfold clampI; (repeat' split) <;> omega
theorem cnt_in {s : ByteArray} (hv : Lib.validD s.data.toList = true) (hs : s.size ≤ 1099511627776) : 0 ≤ cnt s ∧ cnt s ≤ s.size := by
 rw [cnt_lets hv hs]
 have := lets_le hv
 omega
set_option maxRecDepth 100000 in
set_option maxHeartbeats 800000 in
theorem clampG_calls (x : G) (p A : Option Addr) (c : Nat) (B : Option Addr) (d : Nat) (a : Int) (w : World) (hr : Rp w p x.f2) (hz : x.f2.size ≤ 1099511627776) :
  Calls Tryd.prog 42 #[.agg (sgC x p A c B d), .int .i64 a] w fun e w' => e = .returned (.int .i64 (clampI (cnt x.f2) a)) ∧ Below w.heap.size w w' := by
 obtain ⟨m, e1⟩ : ∃ z, (if a < 0 then (0 : Int) else a) = z := ⟨_, rfl⟩
 obtain ⟨n, hn⟩ : ∃ n, n = cnt x.f2 := ⟨_, rfl⟩
 obtain ⟨r, e2⟩ : ∃ z, (if n < m then n else m) = z := ⟨_, rfl⟩
 have er : clampI (cnt x.f2) a = r := by unfold clampI; rw [e1, ← hn]; exact e2
 rw [er]
 have HN := Lib.hid hn
 have HR := Lib.hid hr
 clear hr hn er
 go_enter Tryd.func42, Tryd.ntmps42
 go_wp2_with fail
 (go_at_call 36; refine (len_rp (HR.out.below (below_alloc (Below.refl _ _) _)) hz).mono ?_; rw [← HN.out]; rintro e w1 ⟨rfl, rfl⟩)
 go_wp2
 go_ret
 exact ⟨rfl, below_alloc (Below.refl _ _) _⟩
set_option maxRecDepth 100000 in
set_option maxHeartbeats 800000 in
theorem ropeG_calls (x : G) (p A : Option Addr) (c : Nat) (B : Option Addr) (d : Nat) (w : World) :
  Calls Tryd.prog 15 #[.agg (sgC x p A c B d)] w fun e w' => e = .returned (.pointer p) ∧ Below w.heap.size w w' := by
 go_enter Tryd.func15, Tryd.ntmps15
 go_wp2
 go_ret
 exact ⟨rfl, below_alloc (Below.refl _ _) _⟩
set_option maxRecDepth 100000 in
set_option maxHeartbeats 800000 in
theorem labelG_calls (x : G) (p A : Option Addr) (c : Nat) (B : Option Addr) (d : Nat) (w : World) :
  Calls Tryd.prog 23 #[.agg (sgC x p A c B d)] w fun e w' => e = .returned (.int .i64 x.f1) ∧ Below w.heap.size w w' := by
 go_enter Tryd.func23, Tryd.ntmps23
 go_wp2
 go_ret
 refine ⟨rfl, ?_⟩
 repeat (first | exact Below.refl _ _ | apply below_alloc | (refine below_set ?_ (by simp; try omega)))
set_option maxRecDepth 100000 in
set_option maxHeartbeats 800000 in
theorem of5_calls (s : ByteArray) (w : World) (hs : s.size ≤ 1099511627776) (hT : Tabs w) (hv : Lib.validD s.data.toList = true) :
  Calls Tryd.prog 14 #[.string s] w fun e w' => ∃ p, e = .returned (.pointer p) ∧ Rp w' p s ∧ Below w.heap.size w w' := by
 have HT := Lib.hid hT
 have HV := Lib.hid hv
 clear hT hv
 go_enter Tryd.func14, Tryd.ntmps14
 go_wp2_with fail
 (go_at_call 32; refine (new_rpS s _ hs HT.out HV.out).mono ?_; rintro e w1 ⟨p, rfl, hi, hb⟩)
 go_wp2
 go_ret
 exact ⟨p, rfl, hi, hb⟩
def nG (a b : Int) : G := ⟨a, b, ⟨#[]⟩, [], []⟩
theorem nG_sp (a b : Int) (w : World) : SP w (nG a b) none none 0 none 0 := ⟨⟨⟨Nat.le_refl _, Nat.le_refl _, Kd.C_nil _ _, Kd.C_nil _ _⟩, fun _ e => (by cases e), fun _ e => (by cases e)⟩, rp_none w⟩
set_option maxRecDepth 100000 in
set_option maxHeartbeats 800000 in
theorem segNew_calls (a b : Int) (w : World) : Calls Tryd.prog 31 #[.int .i64 a, .int .i64 b] w fun e w' => e = .returned (.agg (sgC (nG a b) none none 0 none 0)) ∧ Below w.heap.size w w' := by
 go_enter Tryd.func31, Tryd.ntmps31
 go_wp2
 refine bodyPost_ret (results_cell_row rfl _ _ w.heap.size 31 #[.int .i64 a, .int .i64 b, .pointer none, .slice none 0 0, .slice none 0 0] (0, 0) _ rfl (blk_newS rfl) Tryd.underlying31 rfl (by kernel_rfl)) rfl ?_
 exact ⟨rfl, below_alloc (Below.refl _ _) _⟩
end Go.Proofs.YtjphmebhofkhcaaDoor.Seg
/- Segments: the walk of Insert. Conditions: texts of at most 2^30 bytes in all. -/
namespace Go.Proofs.YtjphmebhofkhcaaDoor.Seg
open Go.RowKit Go.Proofs.YtjphmebhofkhcaaDoorPl Go.Proofs.YtjphmebhofkhcaaDoorW.PrintWords Go.Proofs.YtjphmebhofkhcaaDoorW.PrintLast Go.Proofs.YtjphmebhofkhcaaDoorW.PrintMore Go.Proofs.YtjphmebhofkhcaaDoor.Rope Go.Proofs.YtjphmebhofkhcaaDoor.PSegAll Go.Proofs.YtjphmebhofkhcaaDoor.Pure
set_option linter.unusedVariables false
set_option linter.unusedSimpArgs false
theorem bytes_rp {w : World} {p : Option Addr} {s : ByteArray} (h : Rp w p s) : Calls Tryd.prog 41 #[.pointer p] w fun e w' => e = .returned (.int .i64 (s.size : Int)) ∧ w = w' := by
 obtain ⟨t, cs, hi, hs⟩ := h
 have e : bytesO t = s.size := by rw [hi.bytes, ← hs, toList_size]
 rw [← e]
 exact bytes_calls t _ w hi.r
theorem put_rp {w : World} {p q : Option Addr} {s t : ByteArray} (a : Int) (h : Rp w p s) (k : Rp w q t) (hz : s.size + t.size ≤ 1099511627776) :
  Calls Tryd.prog 44 #[.pointer p, .int .i64 a, .pointer q] w fun e w' => ∃ r, e = .returned (.pointer r) ∧ Rp w' r (putT s a t) ∧ Below w.heap.size w w' := by
 obtain ⟨t1, cs, hi, hs⟩ := h
 obtain ⟨t2, ds, ki, ks⟩ := k
 have e1 : bytesO t1 = s.size := by rw [hi.bytes, ← hs, toList_size]
 have e2 : bytesO t2 = t.size := by rw [ki.bytes, ← ks, toList_size]
 refine (put_is a hi ki (by omega)).mono ?_
 rintro e w' ⟨v, rfl, hv, hb⟩
 obtain ⟨r, rfl, hr⟩ := hv.rp (s := putT s a t) (by unfold putT; rw [ofL_data, lets_eq hi.g.letts hs, lets_eq ki.g.letts ks])
 exact ⟨r, rfl, hr, hb⟩
/-- A segment behind a text that is put. -/
noncomputable def insG (x : G) (a : Int) (t : ByteArray) (m : Int) : G := ⟨x.f0, x.f1, putT x.f2 (clampI (cnt x.f2) a) t, putL (clampI (cnt x.f2) a) (cnt t) m x.f3, normY (x.f4.map (Mk.mvY (Mk.toP (clampI (cnt x.f2) a) (cnt t))))⟩
/-- What a walk over a segment of its own keeps. -/
structure IZ (w : World) (g5 g10 : Nat) (y : G) (p A : Option Addr) (c : Nat) (B : Option Addr) (d : Nat) (W : World) : Prop where
 b : Below w.heap.size w W
 lo5 : w.heap.size ≤ g5
 lo10 : w.heap.size ≤ g10
 ne : g5 ≠ g10
 h5 : W.heap[g5]? = some (.cells (sgC y p A c B d) 31 (0, 0))
 h10 : W.heap[g10]? = some (.cells zC 31 (0, 0))
 sp : SP W y p A c B d
theorem IZ.next {w W W' : World} {g5 g10 : Nat} {y : G} {p A : Option Addr} {c : Nat} {B : Option Addr} {d : Nat} (h : IZ w g5 g10 y p A c B d W) (hb : Below W.heap.size W W') : IZ w g5 g10 y p A c B d W' := ⟨below_step h.b hb, h.lo5, h.lo10, h.ne, blk_below h.h5 hb, blk_below h.h10 hb, h.sp.below hb⟩
/-- New marks are laid. -/
theorem IZ.marks {w W W' : World} {g5 g10 : Nat} {y : G} {p A : Option Addr} {c : Nat} {B : Option Addr} {d : Nat} (h : IZ w g5 g10 y p A c B d W) (hb : Below W.heap.size W W') {A' : Option Addr} {c' : Nat} {B' : Option Addr} {d' : Nat} {xs : List S67} {ys : List S70} {base : Nat} {ok ok' : Nat → Prop}
  (r3 : Kd.R kS 67 W' base ok (.slice A' xs.length c') xs) (r4 : Kd.R kY 70 W' base ok' (.slice B' ys.length d') ys) :
  IZ w g5 g10 ⟨y.f0, y.f1, y.f2, xs, ys⟩ p A' c' B' d' ((W'.setCell ⟨g5, 3, none⟩ (.slice A' xs.length c')).setCell ⟨g5, 4, none⟩ (.slice B' ys.length d')) := by
 have k := h.next hb
 have s1 : SP W' ⟨y.f0, y.f1, y.f2, xs, ys⟩ p A' c' B' d' := ⟨TR.of (x := ⟨y.f0, y.f1, y.f2, xs, ys⟩) r3 r4, k.sp.rp⟩
 have s2 := sp_set (sp_set ⟨s1, k.h5⟩ 3 (.slice A' xs.length c')) 4 (.slice B' ys.length d')
 refine ⟨below_set (below_set k.b h.lo5) h.lo5, h.lo5, h.lo10, h.ne, by simpa using s2.2, ?_, s2.1⟩
 exact (Below.heap_setCell _ ⟨g5, 4, none⟩ _ g10 h.ne.symm).trans ((Below.heap_setCell _ ⟨g5, 3, none⟩ _ g10 h.ne.symm).trans k.h10)
/-- A new text is laid. -/
theorem IZ.text {w W W' : World} {g5 g10 : Nat} {y : G} {p A : Option Addr} {c : Nat} {B : Option Addr} {d : Nat} (h : IZ w g5 g10 y p A c B d W) (hb : Below W.heap.size W W') {r : Option Addr} {s : ByteArray} (hr : Rp W' r s) :
  IZ w g5 g10 ⟨y.f0, y.f1, s, y.f3, y.f4⟩ r A c B d (W'.setCell ⟨g5, 2, none⟩ (.pointer r)) := by
 have k := h.next hb
 have s1 : SP W' ⟨y.f0, y.f1, s, y.f3, y.f4⟩ r A c B d := ⟨⟨⟨k.sp.c3, k.sp.c4, k.sp.r3, k.sp.r4⟩, k.sp.t3, k.sp.t4⟩, hr⟩
 have s2 := sp_set ⟨s1, k.h5⟩ 2 (.pointer r)
 refine ⟨below_set k.b h.lo5, h.lo5, h.lo10, h.ne, by simpa using s2.2, ?_, s2.1⟩
 exact (Below.heap_setCell _ ⟨g5, 2, none⟩ _ g10 h.ne.symm).trans k.h10
/-- The answer's segment is laid. -/
theorem IZ.out5 {w W : World} {g5 g10 : Nat} {y : G} {p A : Option Addr} {c : Nat} {B : Option Addr} {d : Nat} (h : IZ w g5 g10 y p A c B d W) :
  (SP (((((W.setCell ⟨g10, 0, none⟩ (.int .i64 y.f0)).setCell ⟨g10, 1, none⟩ (.int .i64 y.f1)).setCell ⟨g10, 2, none⟩ (.pointer p)).setCell ⟨g10, 3, none⟩ (.slice A y.f3.length c)).setCell ⟨g10, 4, none⟩ (.slice B y.f4.length d)) y p A c B d ∧ (((((W.setCell ⟨g10, 0, none⟩ (.int .i64 y.f0)).setCell ⟨g10, 1, none⟩ (.int .i64 y.f1)).setCell ⟨g10, 2, none⟩ (.pointer p)).setCell ⟨g10, 3, none⟩ (.slice A y.f3.length c)).setCell ⟨g10, 4, none⟩ (.slice B y.f4.length d)).heap[g10]? = some (.cells (sgC y p A c B d) 31 (0, 0))) ∧ Below w.heap.size w (((((W.setCell ⟨g10, 0, none⟩ (.int .i64 y.f0)).setCell ⟨g10, 1, none⟩ (.int .i64 y.f1)).setCell ⟨g10, 2, none⟩ (.pointer p)).setCell ⟨g10, 3, none⟩ (.slice A y.f3.length c)).setCell ⟨g10, 4, none⟩ (.slice B y.f4.length d)) := by
 have s := sp_set (sp_set (sp_set (sp_set (sp_set ⟨h.sp, h.h10⟩ 0 (.int .i64 y.f0)) 1 (.int .i64 y.f1)) 2 (.pointer p)) 3 (.slice A y.f3.length c)) 4 (.slice B y.f4.length d)
 exact ⟨⟨s.1, by simpa using s.2⟩, below_set (below_set (below_set (below_set (below_set h.b h.lo10) h.lo10) h.lo10) h.lo10) h.lo10⟩
/-- What may be asked of Insert. -/
structure InsOk (x : G) (t : ByteArray) : Prop where
 z : Sz x
 v : okB x = true
 b1 : x.f2.size ≤ 1073741824
 b2 : t.size ≤ 1073741824
 vt : Lib.validD t.data.toList = true
theorem InsOk.each {x : G} {t : ByteArray} (h : InsOk x t) : ∀ s ∈ x.f3, 0 < s.f0 ∧ 0 ≤ s.f1 ∧ s.f1 < s.f2 ∧ s.f2 ≤ cnt x.f2 := ok_each (Mk.right_iff.1 (okB_true h.v).2).1
theorem InsOk.cnt {x : G} {t : ByteArray} (h : InsOk x t) : (0 ≤ Seg.cnt x.f2 ∧ Seg.cnt x.f2 ≤ 1073741824) ∧ 0 ≤ Seg.cnt t ∧ Seg.cnt t ≤ 1073741824 := by
 have h1 := cnt_in (okB_true h.v).1 h.z.s2
 have h2 := cnt_in h.vt (by have := h.b2; omega)
 have := h.b1
 have := h.b2
 omega
set_option maxRecDepth 1000000 in
set_option maxHeartbeats 4000000 in
theorem segIns_calls (x : G) (p A : Option Addr) (c : Nat) (B : Option Addr) (d : Nat) (q : Option Addr) (t : ByteArray) (a m quota : Int) (w : World) (hs : SP w x p A c B d) (hq : Rp w q t) (ho : InsOk x t) :
  Calls Tryd.prog 13 #[.agg (sgC x p A c B d), .int .i64 a, .pointer q, .int .i64 m, .int .i64 quota] w fun e w' => if quota < (x.f2.size : Int) + (t.size : Int) then e = .returned (.tuple #[.agg (sgC x p A c B d), .bool false]) ∧ Below w.heap.size w w' else RetSeg (insG x a t m) w e w' := by
 have HS := Lib.hid hs
 have HQ := Lib.hid hq
 have HO := Lib.hid ho
 have ws := IntWalk.i64_in ((x.f2.size : Int) + (t.size : Int)) (by have := ho.b1; have := ho.b2; omega)
 clear hs hq ho
 by_cases hg : quota < (x.f2.size : Int) + (t.size : Int)
 ·simp only [if_pos hg]
  go_enter Tryd.func13, Tryd.ntmps13
  go_upto_region 1 with fail
  refine gen2 (φ := fun W => Code.wp _ _ _ _ W) (P := fun W => IZ w w.heap.size (w.heap.size + 1) x p A c B d W) ⟨below_alloc (below_alloc (Below.refl _ _) _) _, Nat.le_refl _, by omega, by omega, blk_alloc (blk_new w _) _, blk_newS (by simp), HS.out.below (below_alloc (below_alloc (Below.refl _ _) _) _)⟩ ?_
  intro V0 hV0
  have Z0 := Lib.hid hV0
  have x2 := (blk_cell hV0.h5 2).trans rfl
  clear hV0
  have dg : decide (quota < (x.f2.size : Int) + (t.size : Int)) = true := by simpa using hg
  have x0 := (blk_cell Z0.out.h5 0).trans rfl
  have x1 := (blk_cell Z0.out.h5 1).trans rfl
  have x3 := (blk_cell Z0.out.h5 3).trans rfl
  have x4 := (blk_cell Z0.out.h5 4).trans rfl
  have r0 := (blk_cell Z0.out.h10 0).trans rfl
  have z0 := blk_frozen Z0.out.h10 0
  have r1 := (blk_cell Z0.out.h10 1).trans rfl
  have z1 := blk_frozen Z0.out.h10 1
  have r2 := (blk_cell Z0.out.h10 2).trans rfl
  have z2 := blk_frozen Z0.out.h10 2
  have r3 := (blk_cell Z0.out.h10 3).trans rfl
  have z3 := blk_frozen Z0.out.h10 3
  have r4 := (blk_cell Z0.out.h10 4).trans rfl
  have z4 := blk_frozen Z0.out.h10 4
  go_wp2_with fail
  (go_at_call 41; refine (bytes_rp Z0.out.sp.rp).mono ?_; rintro e w1 ⟨rfl, rfl⟩)
  go_wp2_with fail
  (go_at_call 41; refine (bytes_rp (HQ.out.below Z0.out.b)).mono ?_; rintro e w1 ⟨rfl, rfl⟩)
  go_wp2
  refine bodyPost_ret (results_ct rfl _ _ (w.heap.size + 1) 31 (sgC x p A c B d) (0, 0) _ rfl (by simpa using Z0.out.out5.1.2) Tryd.underlying31 rfl (by kernel_rfl)) rfl ?_
  exact ⟨rfl, Z0.out.out5.2⟩
 ·simp only [if_neg hg]
  go_enter Tryd.func13, Tryd.ntmps13
  go_upto_region 1 with fail
  refine gen2 (φ := fun W => Code.wp _ _ _ _ W) (P := fun W => IZ w w.heap.size (w.heap.size + 1) x p A c B d W) ⟨below_alloc (below_alloc (Below.refl _ _) _) _, Nat.le_refl _, by omega, by omega, blk_alloc (blk_new w _) _, blk_newS (by simp), HS.out.below (below_alloc (below_alloc (Below.refl _ _) _) _)⟩ ?_
  intro V0 hV0
  have Z0 := Lib.hid hV0
  have x2 := (blk_cell hV0.h5 2).trans rfl
  clear hV0
  have dg : decide (quota < (x.f2.size : Int) + (t.size : Int)) = false := by simpa using hg
  go_wp2_with fail
  (go_at_call 41; refine (bytes_rp Z0.out.sp.rp).mono ?_; rintro e w1 ⟨rfl, rfl⟩)
  go_wp2_with fail
  (go_at_call 41; refine (bytes_rp (HQ.out.below Z0.out.b)).mono ?_; rintro e w1 ⟨rfl, rfl⟩)
  have x0 := (blk_cell Z0.out.h5 0).trans rfl
  have x1 := (blk_cell Z0.out.h5 1).trans rfl
  have x3 := (blk_cell Z0.out.h5 3).trans rfl
  have x4 := (blk_cell Z0.out.h5 4).trans rfl
  obtain ⟨a1, ha1⟩ : ∃ z, z = clampI (cnt x.f2) a := ⟨_, rfl⟩
  have HA := Lib.hid ha1
  have HC := Lib.hid (clamp_in (a := a) HO.out.cnt.1.1)
  rw [← ha1] at HC
  clear ha1
  go_upto_region 4 with (go_at_call 42; refine (clampG_calls x p A c B d a _ Z0.out.sp.rp HO.out.z.s2).mono ?_; rw [← HA.out]; rintro e w1 ⟨rfl, hb1⟩; have Z1 := Lib.hid (Z0.out.next hb1); clear hb1)
  clear x0 x1 x2 x3 x4
  obtain ⟨k, hk⟩ : ∃ k, k = cnt t := ⟨_, rfl⟩
  have HK := Lib.hid hk
  obtain ⟨pl, hpl⟩ : ∃ l, l = putL a1 k m x.f3 := ⟨_, rfl⟩
  obtain ⟨nz, hnz⟩ : ∃ l, l = normY (x.f4.map (Mk.mvY (Mk.toP a1 k))) := ⟨_, rfl⟩
  have HPL := Lib.hid hpl
  have HNZ := Lib.hid hnz
  have x3 := (blk_cell Z1.out.h5 3).trans rfl
  have x4 := (blk_cell Z1.out.h5 4).trans rfl
  clear hk hpl hnz Z0
  refine wp_region_noPanic ?_
  refine wp_region_to (S := fun w' : World => w'.cell? ⟨w.heap.size, 3, none⟩ = some (.slice A x.f3.length c) ∧ w'.cell? ⟨w.heap.size, 4, none⟩ = some (.slice B x.f4.length d)) 8 ?hm_g ?_
  case hm_g => kernel_rfl
  have hHeld_g : (fun w' : World => w'.cell? ⟨w.heap.size, 3, none⟩ = some (.slice A x.f3.length c) ∧ w'.cell? ⟨w.heap.size, 4, none⟩ = some (.slice B x.f4.length d)) _ := ⟨pw_cell_below (w := w1) (by with_reducible repeat (first | exact Below.refl _ _ | apply pw_below_drewN | apply Below.drew)) x3, pw_cell_below (w := w1) (by with_reducible repeat (first | exact Below.refl _ _ | apply pw_below_drewN | apply Below.drew)) x4⟩
  refine HeldTo.take (i := 0) (oi := ?og0) (v := ?vg0) ?hi_g0 ?k1_g0 ?kz_g0 (fun _ _ _ h => h) ?k2_g0 ?k3_g0 (Or.inl ⟨?g_g0, ?y_g0⟩) hHeld_g ?r_g0
  case hi_g0 => (simp only [List.getElem?_toArray, List.getElem?_cons_succ, List.getElem?_cons_zero]; rfl)
  case k1_g0 => kernel_rfl
  case kz_g0 => kernel_rfl
  case k2_g0 => kernel_rfl
  case k3_g0 => kernel_rfl
  case g_g0 => rfl
  case y_g0 => (intro w hSw; (try dsimp only at hSw); first | (go_simp; done) | (go_simp; with_reducible rfl))
  (try simp only [Act.put, List.setIfInBounds_toArray, List.set_cons_zero, List.set_cons_succ])
  refine HeldTo.take (i := 1) (oi := ?og1) (v := ?vg1) ?hi_g1 ?k1_g1 ?kz_g1 (fun _ _ _ h => h) ?k2_g1 ?k3_g1 (Or.inl ⟨?g_g1, ?y_g1⟩) hHeld_g ?r_g1
  case hi_g1 => (simp only [List.getElem?_toArray, List.getElem?_cons_succ, List.getElem?_cons_zero]; rfl)
  case k1_g1 => kernel_rfl
  case kz_g1 => kernel_rfl
  case k2_g1 => kernel_rfl
  case k3_g1 => kernel_rfl
  case g_g1 => rfl
  case y_g1 => (intro w hSw; (try dsimp only at hSw); first | (go_simp; done) | (go_simp; with_reducible rfl))
  (try simp only [Act.put, List.setIfInBounds_toArray, List.set_cons_zero, List.set_cons_succ])
  refine HeldTo.take (i := 2) (oi := ?og2) (v := ?vg2) ?hi_g2 ?k1_g2 ?kz_g2 (fun _ _ _ h => h) ?k2_g2 ?k3_g2 (Or.inl ⟨?g_g2, ?y_g2⟩) hHeld_g ?r_g2
  case hi_g2 => (simp only [List.getElem?_toArray, List.getElem?_cons_succ, List.getElem?_cons_zero]; rfl)
  case k1_g2 => kernel_rfl
  case kz_g2 => kernel_rfl
  case k2_g2 => kernel_rfl
  case k3_g2 => kernel_rfl
  case g_g2 => rfl
  case y_g2 => (intro w hSw; (try dsimp only at hSw); first | (go_simp; done) | (go_simp; with_reducible rfl))
  (try simp only [Act.put, List.setIfInBounds_toArray, List.set_cons_zero, List.set_cons_succ])
  refine HeldTo.take (i := 3) (oi := ?og3) (v := ?vg3) ?hi_g3 ?k1_g3 ?kz_g3 (fun _ _ _ h => h) ?k2_g3 ?k3_g3 (Or.inl ⟨?g_g3, ?y_g3⟩) hHeld_g ?r_g3
  case hi_g3 => (simp only [List.getElem?_toArray, List.getElem?_cons_succ, List.getElem?_cons_zero]; rfl)
  case k1_g3 => kernel_rfl
  case kz_g3 => kernel_rfl
  case k2_g3 => kernel_rfl
  case k3_g3 => kernel_rfl
  case g_g3 => rfl
  case y_g3 => (intro w hSw; (try dsimp only at hSw); first | (go_simp; done) | (go_simp; with_reducible rfl))
  (try simp only [Act.put, List.setIfInBounds_toArray, List.set_cons_zero, List.set_cons_succ])
  refine HeldTo.take (i := 5) (oi := ?og5) (v := ?vg5) ?hi_g5 ?k1_g5 ?kz_g5 (fun _ _ _ h => h) ?k2_g5 ?k3_g5 (Or.inl ⟨?g_g5, ?y_g5⟩) hHeld_g ?r_g5
  case hi_g5 => (simp only [List.getElem?_toArray, List.getElem?_cons_succ, List.getElem?_cons_zero]; rfl)
  case k1_g5 => kernel_rfl
  case kz_g5 => kernel_rfl
  case k2_g5 => kernel_rfl
  case k3_g5 => kernel_rfl
  case g_g5 => rfl
  case y_g5 => (intro w hSw; (try dsimp only at hSw); first | (go_simp; done) | (go_simp; with_reducible rfl))
  (try simp only [Act.put, List.setIfInBounds_toArray, List.set_cons_zero, List.set_cons_succ])
  refine HeldTo.one (i := 4) (o := ?og4) ?k1_g4 ?hi_g4 (fun K hK => ?s_g4)
  case k1_g4 => kernel_rfl
  case hi_g4 => (simp only [List.getElem?_toArray, List.getElem?_cons_succ, List.getElem?_cons_zero]; rfl)
  go_simp
  (go_at_call 36; refine (len_rpb (p := q) (s := t) (HQ.out.below (below_step Z1.out.b (show Below w1.heap.size w1 _ from (by with_reducible repeat (first | exact Below.refl _ _ | apply pw_below_drewN | apply Below.drew))))) (by have := HO.out.b2; omega)).mono ?_; rw [← HK.out]; rintro e w3 ⟨rfl, hb3⟩)
  have B3 := Lib.hid (below_step (show Below w1.heap.size w1 _ from (by with_reducible repeat (first | exact Below.refl _ _ | apply pw_below_drewN | apply Below.drew))) hb3)
  clear hb3
  (try go_wp2_with fail)
  refine hK.out _ _ (Or.inr ⟨pw_cell_below (w := w1) B3.out x3, pw_cell_below (w := w1) B3.out x4⟩) ?_
  clear hK K
  (try simp only [Act.put, List.setIfInBounds_toArray, List.set_cons_zero, List.set_cons_succ])
  refine HeldTo.one (i := 6) (o := ?og6) ?k1_g6 ?hi_g6 (fun K hK => ?s_g6)
  case k1_g6 => kernel_rfl
  case hi_g6 => (simp only [List.getElem?_toArray, List.getElem?_cons_succ, List.getElem?_cons_zero]; rfl)
  go_simp
  (go_at_call 43; refine (Mk.put_calls A c x.f3 B d x.f4 a1 k m _ (Kd.C_below Z1.out.sp.r3 B3.out) Z1.out.sp.c3 (Kd.C_below Z1.out.sp.r4 B3.out) Z1.out.sp.c4 HO.out.z.s3 HO.out.z.s4 (by have := HC.out; have := HO.out.cnt; omega) (by have := HO.out.cnt; rw [HK.out]; omega) (fun s hs => by have := HO.out.each s hs; have := HO.out.cnt; omega)).mono ?_; rw [← HPL.out, ← HNZ.out]; rintro e w4 ⟨A4, c4, B4, d4, e4, m4, n4, hb4⟩)
  subst e4
  have M4 := Lib.hid m4
  have N4 := Lib.hid n4
  have HB4 := Lib.hid hb4
  clear m4 n4 hb4
  (try go_wp2_with fail)
  refine hK.out _ _ (Or.inr ⟨pw_cell_below (w := w1) (below_step B3.out HB4.out) x3, pw_cell_below (w := w1) (below_step B3.out HB4.out) x4⟩) ?_
  clear hK K
  (try simp only [Act.put, List.setIfInBounds_toArray, List.set_cons_zero, List.set_cons_succ])
  refine HeldTo.take (i := 7) (oi := ?og7) (v := ?vg7) ?hi_g7 ?k1_g7 ?kz_g7 (fun _ _ _ h => h) ?k2_g7 ?k3_g7 (Or.inl ⟨?g_g7, ?y_g7⟩) ⟨pw_cell_below (w := w1) (below_step B3.out HB4.out) x3, pw_cell_below (w := w1) (below_step B3.out HB4.out) x4⟩ ?r_g7
  case hi_g7 => (simp only [List.getElem?_toArray, List.getElem?_cons_succ, List.getElem?_cons_zero]; rfl)
  case k1_g7 => kernel_rfl
  case kz_g7 => kernel_rfl
  case k2_g7 => kernel_rfl
  case k3_g7 => kernel_rfl
  case g_g7 => rfl
  case y_g7 => (intro w hSw; (try dsimp only at hSw); first | (go_simp; done) | (go_simp; with_reducible rfl))
  (try simp only [Act.put, List.setIfInBounds_toArray, List.set_cons_zero, List.set_cons_succ])
  refine HeldTo.one (i := 8) (o := ?og8) ?k1_g8 ?hi_g8 (fun K hK => ?s_g8)
  case k1_g8 => kernel_rfl
  case hi_g8 => (simp only [List.getElem?_toArray, List.getElem?_cons_succ, List.getElem?_cons_zero]; rfl)
  have t3 := (blk_cell (blk_below (blk_below Z1.out.h5 B3.out) HB4.out) 3).trans rfl
  have t4 := (blk_cell (blk_below (blk_below Z1.out.h5 B3.out) HB4.out) 4).trans rfl
  have z3 := blk_frozen (blk_below (blk_below Z1.out.h5 B3.out) HB4.out) 3
  have z4 := blk_frozen (blk_below (blk_below Z1.out.h5 B3.out) HB4.out) 4
  go_simp
  refine hK.out _ _ (Or.inl rfl) ?_
  clear hK K
  (try simp only [Act.put, List.setIfInBounds_toArray, List.set_cons_zero, List.set_cons_succ])
  refine HeldTo.done (by kernel_rfl) ?_ _
  refine NoPanic.normal ?_
  refine gen2 (φ := fun W => Exit.then _ _ Exit.normal _ W) (P := fun W => IZ w w.heap.size (w.heap.size + 1) ⟨x.f0, x.f1, x.f2, pl, nz⟩ p A4 c4 B4 d4 W) (Z1.out.marks (below_step B3.out HB4.out) M4.out N4.out) ?_
  intro V2 hV2
  have Z2 := Lib.hid hV2
  have x2 := (blk_cell hV2.h5 2).trans rfl
  clear hV2 t3 t4 z3 z4 x3 x4 Z1 M4 N4 B3 HB4 hHeld_g
  go_upto_region 6 with (go_at_call 44; refine (put_rp a1 (show Rp V2 p x.f2 from Z2.out.sp.rp) (HQ.out.below Z2.out.b) (by have := HO.out.b1; have := HO.out.b2; omega)).mono ?_; rintro e w5 ⟨r, rfl, hr5, hb5⟩; have R5 := Lib.hid hr5; have HB5 := Lib.hid hb5; have u2 := (blk_cell (blk_below Z2.out.h5 hb5) 2).trans rfl; have z2 := blk_frozen (blk_below Z2.out.h5 hb5) 2; clear hr5 hb5)
  refine gen2 (φ := fun W => Code.wp _ _ _ _ W) (P := fun W => IZ w w.heap.size (w.heap.size + 1) ⟨x.f0, x.f1, putT x.f2 a1 t, pl, nz⟩ r A4 c4 B4 d4 W) (Z2.out.text HB5.out R5.out) ?_
  intro V3 hV3
  have Z3 := Lib.hid hV3
  have x0 := (blk_cell hV3.h5 0).trans rfl
  have x1 := (blk_cell hV3.h5 1).trans rfl
  have x2' := (blk_cell hV3.h5 2).trans rfl
  have x3 := (blk_cell hV3.h5 3).trans rfl
  have x4 := (blk_cell hV3.h5 4).trans rfl
  clear hV3 x2 u2 z2 Z2 HB5 R5
  have HI := Lib.hid (show insG x a t m = ⟨x.f0, x.f1, putT x.f2 a1 t, pl, nz⟩ by unfold insG; rw [← HA.out, ← HK.out, ← HPL.out, ← HNZ.out])
  have r0 := (blk_cell Z3.out.h10 0).trans rfl
  have z0 := blk_frozen Z3.out.h10 0
  have r1 := (blk_cell Z3.out.h10 1).trans rfl
  have z1 := blk_frozen Z3.out.h10 1
  have r2 := (blk_cell Z3.out.h10 2).trans rfl
  have z2 := blk_frozen Z3.out.h10 2
  have r3 := (blk_cell Z3.out.h10 3).trans rfl
  have z3 := blk_frozen Z3.out.h10 3
  have r4 := (blk_cell Z3.out.h10 4).trans rfl
  have z4 := blk_frozen Z3.out.h10 4
  go_wp2
  refine bodyPost_ret (results_ct rfl _ _ (w.heap.size + 1) 31 (sgC ⟨x.f0, x.f1, putT x.f2 a1 t, pl, nz⟩ r A4 c4 B4 d4) (0, 0) _ rfl (by simpa using Z3.out.out5.1.2) Tryd.underlying31 rfl (by kernel_rfl)) rfl ?_
  rw [HI.out]
  exact ⟨r, A4, c4, B4, d4, rfl, Z3.out.out5.1.1, Z3.out.out5.2⟩
end Go.Proofs.YtjphmebhofkhcaaDoor.Seg
/- Segments: the walks of the laws' own has, text and loaded. Conditions: texts of at most 2^30 bytes. -/
namespace Go.Proofs.YtjphmebhofkhcaaDoor.Seg
open Go.RowKit Go.Proofs.YtjphmebhofkhcaaDoorPl Go.Proofs.YtjphmebhofkhcaaDoorW.PrintWords Go.Proofs.YtjphmebhofkhcaaDoorW.PrintLast Go.Proofs.YtjphmebhofkhcaaDoorW.PrintMore Go.Proofs.YtjphmebhofkhcaaDoor.Rope Go.Proofs.YtjphmebhofkhcaaDoor.PSegAll Go.Proofs.YtjphmebhofkhcaaDoor.Pure
set_option linter.unusedVariables false
set_option linter.unusedSimpArgs false
theorem same5_ev (x : G) (h : Sz x) : Ev (fun k => chancelref05_Same.f k x.f0 x.f1 x.f2 x.f3 x.f4 x.f0 x.f1 x.f2 x.f3 x.f4) true := by
 refine Ev.congr (fun k => ?_) (Ev.bind (f := fun _ t => some t) (Pure.same_ev x.f3 x.f4 (by have := h.s3; omega) (by have := h.s4; omega)) (Ev.now _))
 unfold chancelref05_Same.f
 rw [if_pos rfl, if_pos rfl, if_pos rfl]
theorem same5_calls (x : G) (A : Option Addr) (c : Nat) (B : Option Addr) (d : Nat) (A2 : Option Addr) (c2 : Nat) (B2 : Option Addr) (d2 : Nat) (w : World) (h1 : GR w x A c B d) (h2 : GR w x A2 c2 B2 d2) (hz : Sz x) :
  Calls Tryd.prog 30 #[.agg (gC x A c B d), .agg (gC x A2 c2 B2 d2)] w fun e w' => e = .returned (.bool true) ∧ Below w.heap.size w w' := by
 obtain ⟨k, hk⟩ := Go.Proofs.YtjphmebhofkhcaaDoorW.PrintWords.Ev.rounds (same5_ev x hz)
 exact chancelref05_Same.calls k x.f0 x.f1 x.f2 A c x.f3 B d x.f4 x.f0 x.f1 x.f2 A2 c2 x.f3 B2 d2 x.f4 true w h1.r3 h1.c3 h1.r4 h1.c4 h2.r3 h2.c3 h2.r4 h2.c4 hk
/-- What has reads. -/
abbrev HQ (w : World) (x : G) (p A : Option Addr) (c : Nat) (B : Option Addr) (d : Nat) (A2 : Option Addr) (c2 : Nat) (B2 : Option Addr) (d2 : Nat) (V w' : World) : Prop :=
 Q5 V w.heap.size x p A c B d w' ∧ w'.cell? ⟨w.heap.size + 1, 0, none⟩ = some (.int .i64 x.f0) ∧ w'.cell? ⟨w.heap.size + 1, 1, none⟩ = some (.int .i64 x.f1) ∧ w'.cell? ⟨w.heap.size + 1, 2, none⟩ = some (.string x.f2) ∧ w'.cell? ⟨w.heap.size + 1, 3, none⟩ = some (.slice A2 x.f3.length c2) ∧ w'.cell? ⟨w.heap.size + 1, 4, none⟩ = some (.slice B2 x.f4.length d2)
theorem HQ.next {w : World} {x : G} {p A : Option Addr} {c : Nat} {B : Option Addr} {d : Nat} {A2 : Option Addr} {c2 : Nat} {B2 : Option Addr} {d2 : Nat} {V W W' : World} (h : HQ w x p A c B d A2 c2 B2 d2 V W) (hb : Below W.heap.size W W') : HQ w x p A c B d A2 c2 B2 d2 V W' :=
 ⟨Q5.next h.1 hb, pw_cell_below hb h.2.1, pw_cell_below hb h.2.2.1, pw_cell_below hb h.2.2.2.1, pw_cell_below hb h.2.2.2.2.1, pw_cell_below hb h.2.2.2.2.2⟩
theorem HQ.b {w : World} {x : G} {p A : Option Addr} {c : Nat} {B : Option Addr} {d : Nat} {A2 : Option Addr} {c2 : Nat} {B2 : Option Addr} {d2 : Nat} {V W : World} (h : HQ w x p A c B d A2 c2 B2 d2 V W) : Below V.heap.size V W := Q5.b h.1
set_option maxRecDepth 1000000 in
set_option maxHeartbeats 4000000 in
theorem has5_calls (x : G) (p A : Option Addr) (c : Nat) (B : Option Addr) (d : Nat) (A2 : Option Addr) (c2 : Nat) (B2 : Option Addr) (d2 : Nat) (w : World) (hs : SP w x p A c B d) (hr : GR w x A2 c2 B2 d2) (hz : Sz x) :
  Calls Tryd.prog 8 #[.agg (sgC x p A c B d), .agg (gC x A2 c2 B2 d2)] w fun e w' => e = .returned (.bool true) ∧ Below w.heap.size w w' := by
 have HS := Lib.hid hs
 have HR := Lib.hid hr
 have HZ := Lib.hid hz
 clear hs hr hz
 go_enter Tryd.func8, Tryd.ntmps8
 go_upto_region 1 with fail
 refine gen2 (φ := fun W => Code.wp _ _ _ _ W) (P := fun W => Below w.heap.size w W ∧ HQ w x p A c B d A2 c2 B2 d2 W W) ⟨below_alloc (below_alloc (Below.refl _ _) _) _, by
  have h5 : ((w.alloc (.cells (sgC x p A c B d) 31)).alloc (.cells (gC x A2 c2 B2 d2) 25)).heap[w.heap.size]? = some (.cells (sgC x p A c B d) 31 (0, 0)) := blk_alloc (blk_new w _) _
  have h3 : ((w.alloc (.cells (sgC x p A c B d) 31)).alloc (.cells (gC x A2 c2 B2 d2) 25)).heap[w.heap.size + 1]? = some (.cells (gC x A2 c2 B2 d2) 25 (0, 0)) := blk_newS (by simp)
  exact ⟨Q5.of h5 (Below.refl _ _), blk_cell h3 0, blk_cell h3 1, blk_cell h3 2, blk_cell h3 3, blk_cell h3 4⟩⟩ ?_
 rintro V ⟨hb, hq⟩
 have BV := Lib.hid hb
 have QV := Lib.hid hq
 clear hb hq
 have QV0 := Lib.hid (show HQ w x p A c B d A2 c2 B2 d2 V V.drew from HQ.next QV.out (by with_reducible repeat (first | exact Below.refl _ _ | apply pw_below_drewN | apply Below.drew)))
 refine wp_region_noPanic ?_
 refine wp_region_held_drew (S := fun w' : World => HQ w x p A c B d A2 c2 B2 d2 V w') ?hm_h ?hS_h (fun hHeld => ?_)
 case hm_h => kernel_rfl
 case hS_h => exact QV0.out
 refine wpAnyH_take (i := 0) (oi := ?oh0) (v := ?vh0) ?hi_h0 ?k1_h0 ?k2_h0 ?k3_h0 (fun _ _ _ h => h) (Or.inl ⟨?g_h0, ?y_h0⟩) (by assumption) ?r_h0
 case hi_h0 => (simp only [List.getElem?_toArray, List.getElem?_cons_succ, List.getElem?_cons_zero]; rfl)
 case k1_h0 => kernel_rfl
 case k2_h0 => kernel_rfl
 case k3_h0 => kernel_rfl
 case g_h0 => rfl
 case y_h0 => (intro w hSw; (try dsimp only at hSw); first | (go_simp; done) | (go_simp; with_reducible rfl))
 (try simp only [Act.put, List.setIfInBounds_toArray, List.set_cons_zero, List.set_cons_succ])
 refine wpAnyH_take (i := 2) (oi := ?oh2) (v := ?vh2) ?hi_h2 ?k1_h2 ?k2_h2 ?k3_h2 (fun _ _ _ h => h) (Or.inl ⟨?g_h2, ?y_h2⟩) (by assumption) ?r_h2
 case hi_h2 => (simp only [List.getElem?_toArray, List.getElem?_cons_succ, List.getElem?_cons_zero]; rfl)
 case k1_h2 => kernel_rfl
 case k2_h2 => kernel_rfl
 case k3_h2 => kernel_rfl
 case g_h2 => rfl
 case y_h2 => (intro w hSw; (try dsimp only at hSw); first | (go_simp; done) | (go_simp; with_reducible rfl))
 (try simp only [Act.put, List.setIfInBounds_toArray, List.set_cons_zero, List.set_cons_succ])
 refine wpAnyH_ready (rs := [1]) ?k1_h1 (by simp) ?r_h1
 case k1_h1 => kernel_rfl
 refine AllReadyH.cons (o := ?oh1) ?hi_h1 (fun K hK => ?s_h1) ?m_h1
 case hi_h1 => (simp only [List.getElem?_toArray, List.getElem?_cons_succ, List.getElem?_cons_zero]; rfl)
 case m_h1 => exact AllReadyH.nil
 go_simp
 (go_at_call 21; refine (plainG_calls x p A c B d _ (HS.out.below (below_step BV.out (HQ.b QV0.out))) HZ.out).mono ?_; rintro e w1 ⟨A5, c5, B5, d5, rfl, r3, r4, hb⟩; have R3 := Lib.hid r3; have R4 := Lib.hid r4; have Q1 := Lib.hid (HQ.next QV0.out hb); clear hb r3 r4)
 (try go_wp2_with fail)
 refine hK.out _ _ Q1.out (fun hHeld => ?_)
 clear hK K
 (try simp only [Act.put, List.setIfInBounds_toArray, List.set_cons_zero, List.set_cons_succ])
 refine wpAnyH_ready (rs := [3]) ?k1_h3 (by simp) ?r_h3
 case k1_h3 => kernel_rfl
 refine AllReadyH.cons (o := ?oh3) ?hi_h3 (fun K hK => ?s_h3) ?m_h3
 case hi_h3 => (simp only [List.getElem?_toArray, List.getElem?_cons_succ, List.getElem?_cons_zero]; rfl)
 case m_h3 => exact AllReadyH.nil
 go_simp
 (go_at_call 30; refine (same5_calls x A5 c5 B5 d5 A2 c2 B2 d2 _ ⟨(Kd.R_reads' R3.out).2.1, (Kd.R_reads' R4.out).2.1, (Kd.R_reads' R3.out).2.2, (Kd.R_reads' R4.out).2.2⟩ (HR.out.below (below_step BV.out (HQ.b Q1.out))) HZ.out).mono ?_; rintro e w3 ⟨rfl, hb⟩; have Q3 := Lib.hid (HQ.next Q1.out hb); clear hb)
 (try go_wp2_with fail)
 refine hK.out _ _ Q3.out (fun hHeld => ?_)
 clear hK K
 (try simp only [Act.put, List.setIfInBounds_toArray, List.set_cons_zero, List.set_cons_succ])
 refine wpAnyH_take (i := 4) (oi := ?oh4) (v := ?vh4) ?hi_h4 ?k1_h4 ?k2_h4 ?k3_h4 (fun _ _ _ h => h) (Or.inl ⟨?g_h4, ?y_h4⟩) (by assumption) ?r_h4
 case hi_h4 => (simp only [List.getElem?_toArray, List.getElem?_cons_succ, List.getElem?_cons_zero]; rfl)
 case k1_h4 => kernel_rfl
 case k2_h4 => kernel_rfl
 case k3_h4 => kernel_rfl
 case g_h4 => rfl
 case y_h4 => (intro w hSw; (try dsimp only at hSw); first | (go_simp; done) | (go_simp; with_reducible rfl))
 (try simp only [Act.put, List.setIfInBounds_toArray, List.set_cons_zero, List.set_cons_succ])
 refine wpAnyH_take (i := 5) (oi := ?oh5) (v := ?vh5) ?hi_h5 ?k1_h5 ?k2_h5 ?k3_h5 (fun _ _ _ h => h) (Or.inl ⟨?g_h5, ?y_h5⟩) (by assumption) ?r_h5
 case hi_h5 => (simp only [List.getElem?_toArray, List.getElem?_cons_succ, List.getElem?_cons_zero]; rfl)
 case k1_h5 => kernel_rfl
 case k2_h5 => kernel_rfl
 case k3_h5 => kernel_rfl
 case g_h5 => rfl
 case y_h5 => (intro w hSw; (try dsimp only at hSw); first | (go_simp; done) | (go_simp; with_reducible rfl))
 (try simp only [Act.put, List.setIfInBounds_toArray, List.set_cons_zero, List.set_cons_succ])
 refine wpAnyH_take (i := 7) (oi := ?oh7) (v := ?vh7) ?hi_h7 ?k1_h7 ?k2_h7 ?k3_h7 (fun _ _ _ h => h) (Or.inl ⟨?g_h7, ?y_h7⟩) (by assumption) ?r_h7
 case hi_h7 => (simp only [List.getElem?_toArray, List.getElem?_cons_succ, List.getElem?_cons_zero]; rfl)
 case k1_h7 => kernel_rfl
 case k2_h7 => kernel_rfl
 case k3_h7 => kernel_rfl
 case g_h7 => rfl
 case y_h7 => (intro w hSw; (try dsimp only at hSw); first | (go_simp; done) | (go_simp; with_reducible rfl))
 (try simp only [Act.put, List.setIfInBounds_toArray, List.set_cons_zero, List.set_cons_succ])
 refine wpAnyH_take (i := 8) (oi := ?oh8) (v := ?vh8) ?hi_h8 ?k1_h8 ?k2_h8 ?k3_h8 (fun _ _ _ h => h) (Or.inl ⟨?g_h8, ?y_h8⟩) (by assumption) ?r_h8
 case hi_h8 => (simp only [List.getElem?_toArray, List.getElem?_cons_succ, List.getElem?_cons_zero]; rfl)
 case k1_h8 => kernel_rfl
 case k2_h8 => kernel_rfl
 case k3_h8 => kernel_rfl
 case g_h8 => rfl
 case y_h8 => (intro w hSw; (try dsimp only at hSw); first | (go_simp; done) | (go_simp; with_reducible rfl))
 (try simp only [Act.put, List.setIfInBounds_toArray, List.set_cons_zero, List.set_cons_succ])
 refine wpAnyH_ready (rs := [6]) ?k1_h6 (by simp) ?r_h6
 case k1_h6 => kernel_rfl
 refine AllReadyH.cons (o := ?oh6) ?hi_h6 (fun K hK => ?s_h6) ?m_h6
 case hi_h6 => (simp only [List.getElem?_toArray, List.getElem?_cons_succ, List.getElem?_cons_zero]; rfl)
 case m_h6 => exact AllReadyH.nil
 go_simp
 (go_at_call 22; refine (id_calls x p A c B d _).mono ?_; rintro e w6 ⟨rfl, hb⟩; have Q6 := Lib.hid (HQ.next Q3.out hb); clear hb)
 (try go_wp2_with fail)
 refine hK.out _ _ Q6.out (fun hHeld => ?_)
 clear hK K
 (try simp only [Act.put, List.setIfInBounds_toArray, List.set_cons_zero, List.set_cons_succ])
 refine wpAnyH_take (i := 9) (oi := ?oh9) (v := ?vh9) ?hi_h9 ?k1_h9 ?k2_h9 ?k3_h9 (fun _ _ _ h => h) (Or.inl ⟨?g_h9, ?y_h9⟩) (by assumption) ?r_h9
 case hi_h9 => (simp only [List.getElem?_toArray, List.getElem?_cons_succ, List.getElem?_cons_zero]; rfl)
 case k1_h9 => kernel_rfl
 case k2_h9 => kernel_rfl
 case k3_h9 => kernel_rfl
 case g_h9 => rfl
 case y_h9 => (intro w hSw; (try dsimp only at hSw); first | (go_simp; done) | (go_simp; with_reducible rfl))
 (try simp only [Act.put, List.setIfInBounds_toArray, List.set_cons_zero, List.set_cons_succ])
 refine wpAnyH_take (i := 10) (oi := ?oh10) (v := ?vh10) ?hi_h10 ?k1_h10 ?k2_h10 ?k3_h10 (fun _ _ _ h => h) (Or.inl ⟨?g_h10, ?y_h10⟩) (by assumption) ?r_h10
 case hi_h10 => (simp only [List.getElem?_toArray, List.getElem?_cons_succ, List.getElem?_cons_zero]; rfl)
 case k1_h10 => kernel_rfl
 case k2_h10 => kernel_rfl
 case k3_h10 => kernel_rfl
 case g_h10 => rfl
 case y_h10 => (intro w hSw; (try dsimp only at hSw); first | (go_simp; done) | (go_simp; with_reducible rfl))
 (try simp only [Act.put, List.setIfInBounds_toArray, List.set_cons_zero, List.set_cons_succ])
 refine wpAnyH_take (i := 11) (oi := ?oh11) (v := ?vh11) ?hi_h11 ?k1_h11 ?k2_h11 ?k3_h11 (fun _ _ _ h => h) (Or.inl ⟨?g_h11, ?y_h11⟩) (by assumption) ?r_h11
 case hi_h11 => (simp only [List.getElem?_toArray, List.getElem?_cons_succ, List.getElem?_cons_zero]; rfl)
 case k1_h11 => kernel_rfl
 case k2_h11 => kernel_rfl
 case k3_h11 => kernel_rfl
 case g_h11 => rfl
 case y_h11 => (intro w hSw; (try dsimp only at hSw); first | (go_simp; done) | (go_simp; with_reducible rfl))
 (try simp only [Act.put, List.setIfInBounds_toArray, List.set_cons_zero, List.set_cons_succ])
 refine wpAnyH_take (i := 12) (oi := ?oh12) (v := ?vh12) ?hi_h12 ?k1_h12 ?k2_h12 ?k3_h12 (fun _ _ _ h => h) (Or.inl ⟨?g_h12, ?y_h12⟩) (by assumption) ?r_h12
 case hi_h12 => (simp only [List.getElem?_toArray, List.getElem?_cons_succ, List.getElem?_cons_zero]; rfl)
 case k1_h12 => kernel_rfl
 case k2_h12 => kernel_rfl
 case k3_h12 => kernel_rfl
 case g_h12 => rfl
 case y_h12 => (intro w hSw; (try dsimp only at hSw); first | (go_simp; done) | (go_simp; with_reducible rfl))
 (try simp only [Act.put, List.setIfInBounds_toArray, List.set_cons_zero, List.set_cons_succ])
 refine wpAnyH_take (i := 14) (oi := ?oh14) (v := ?vh14) ?hi_h14 ?k1_h14 ?k2_h14 ?k3_h14 (fun _ _ _ h => h) (Or.inl ⟨?g_h14, ?y_h14⟩) (by assumption) ?r_h14
 case hi_h14 => (simp only [List.getElem?_toArray, List.getElem?_cons_succ, List.getElem?_cons_zero]; rfl)
 case k1_h14 => kernel_rfl
 case k2_h14 => kernel_rfl
 case k3_h14 => kernel_rfl
 case g_h14 => rfl
 case y_h14 => (intro w hSw; (try dsimp only at hSw); first | (go_simp; done) | (go_simp; with_reducible rfl))
 (try simp only [Act.put, List.setIfInBounds_toArray, List.set_cons_zero, List.set_cons_succ])
 refine wpAnyH_take (i := 15) (oi := ?oh15) (v := ?vh15) ?hi_h15 ?k1_h15 ?k2_h15 ?k3_h15 (fun _ _ _ h => h) (Or.inl ⟨?g_h15, ?y_h15⟩) (by assumption) ?r_h15
 case hi_h15 => (simp only [List.getElem?_toArray, List.getElem?_cons_succ, List.getElem?_cons_zero]; rfl)
 case k1_h15 => kernel_rfl
 case k2_h15 => kernel_rfl
 case k3_h15 => kernel_rfl
 case g_h15 => rfl
 case y_h15 => (intro w hSw; (try dsimp only at hSw); first | (go_simp; done) | (go_simp; with_reducible rfl))
 (try simp only [Act.put, List.setIfInBounds_toArray, List.set_cons_zero, List.set_cons_succ])
 refine wpAnyH_ready (rs := [13]) ?k1_h13 (by simp) ?r_h13
 case k1_h13 => kernel_rfl
 refine AllReadyH.cons (o := ?oh13) ?hi_h13 (fun K hK => ?s_h13) ?m_h13
 case hi_h13 => (simp only [List.getElem?_toArray, List.getElem?_cons_succ, List.getElem?_cons_zero]; rfl)
 case m_h13 => exact AllReadyH.nil
 go_simp
 (go_at_call 23; refine (labelG_calls x p A c B d _).mono ?_; rintro e w13 ⟨rfl, hb⟩; have Q13 := Lib.hid (HQ.next Q6.out hb); clear hb)
 (try go_wp2_with fail)
 refine hK.out _ _ Q13.out (fun hHeld => ?_)
 clear hK K
 (try simp only [Act.put, List.setIfInBounds_toArray, List.set_cons_zero, List.set_cons_succ])
 refine wpAnyH_take (i := 16) (oi := ?oh16) (v := ?vh16) ?hi_h16 ?k1_h16 ?k2_h16 ?k3_h16 (fun _ _ _ h => h) (Or.inl ⟨?g_h16, ?y_h16⟩) (by assumption) ?r_h16
 case hi_h16 => (simp only [List.getElem?_toArray, List.getElem?_cons_succ, List.getElem?_cons_zero]; rfl)
 case k1_h16 => kernel_rfl
 case k2_h16 => kernel_rfl
 case k3_h16 => kernel_rfl
 case g_h16 => rfl
 case y_h16 => (intro w hSw; (try dsimp only at hSw); first | (go_simp; done) | (go_simp; with_reducible rfl))
 (try simp only [Act.put, List.setIfInBounds_toArray, List.set_cons_zero, List.set_cons_succ])
 refine wpAnyH_take (i := 17) (oi := ?oh17) (v := ?vh17) ?hi_h17 ?k1_h17 ?k2_h17 ?k3_h17 (fun _ _ _ h => h) (Or.inl ⟨?g_h17, ?y_h17⟩) (by assumption) ?r_h17
 case hi_h17 => (simp only [List.getElem?_toArray, List.getElem?_cons_succ, List.getElem?_cons_zero]; rfl)
 case k1_h17 => kernel_rfl
 case k2_h17 => kernel_rfl
 case k3_h17 => kernel_rfl
 case g_h17 => rfl
 case y_h17 => (intro w hSw; (try dsimp only at hSw); first | (go_simp; done) | (go_simp; with_reducible rfl))
 (try simp only [Act.put, List.setIfInBounds_toArray, List.set_cons_zero, List.set_cons_succ])
 refine wpAnyH_take (i := 18) (oi := ?oh18) (v := ?vh18) ?hi_h18 ?k1_h18 ?k2_h18 ?k3_h18 (fun _ _ _ h => h) (Or.inl ⟨?g_h18, ?y_h18⟩) (by assumption) ?r_h18
 case hi_h18 => (simp only [List.getElem?_toArray, List.getElem?_cons_succ, List.getElem?_cons_zero]; rfl)
 case k1_h18 => kernel_rfl
 case k2_h18 => kernel_rfl
 case k3_h18 => kernel_rfl
 case g_h18 => rfl
 case y_h18 => (intro w hSw; (try dsimp only at hSw); first | (go_simp; done) | (go_simp; with_reducible rfl))
 (try simp only [Act.put, List.setIfInBounds_toArray, List.set_cons_zero, List.set_cons_succ])
 refine wpAnyH_take (i := 19) (oi := ?oh19) (v := ?vh19) ?hi_h19 ?k1_h19 ?k2_h19 ?k3_h19 (fun _ _ _ h => h) (Or.inl ⟨?g_h19, ?y_h19⟩) (by assumption) ?r_h19
 case hi_h19 => (simp only [List.getElem?_toArray, List.getElem?_cons_succ, List.getElem?_cons_zero]; rfl)
 case k1_h19 => kernel_rfl
 case k2_h19 => kernel_rfl
 case k3_h19 => kernel_rfl
 case g_h19 => rfl
 case y_h19 => (intro w hSw; (try dsimp only at hSw); first | (go_simp; done) | (go_simp; with_reducible rfl))
 (try simp only [Act.put, List.setIfInBounds_toArray, List.set_cons_zero, List.set_cons_succ])
 refine wpAnyH_take (i := 22) (oi := ?oh22) (v := ?vh22) ?hi_h22 ?k1_h22 ?k2_h22 ?k3_h22 (fun _ _ _ h => h) (Or.inl ⟨?g_h22, ?y_h22⟩) (by assumption) ?r_h22
 case hi_h22 => (simp only [List.getElem?_toArray, List.getElem?_cons_succ, List.getElem?_cons_zero]; rfl)
 case k1_h22 => kernel_rfl
 case k2_h22 => kernel_rfl
 case k3_h22 => kernel_rfl
 case g_h22 => rfl
 case y_h22 => (intro w hSw; (try dsimp only at hSw); first | (go_simp; done) | (go_simp; with_reducible rfl))
 (try simp only [Act.put, List.setIfInBounds_toArray, List.set_cons_zero, List.set_cons_succ])
 refine wpAnyH_take (i := 23) (oi := ?oh23) (v := ?vh23) ?hi_h23 ?k1_h23 ?k2_h23 ?k3_h23 (fun _ _ _ h => h) (Or.inl ⟨?g_h23, ?y_h23⟩) (by assumption) ?r_h23
 case hi_h23 => (simp only [List.getElem?_toArray, List.getElem?_cons_succ, List.getElem?_cons_zero]; rfl)
 case k1_h23 => kernel_rfl
 case k2_h23 => kernel_rfl
 case k3_h23 => kernel_rfl
 case g_h23 => rfl
 case y_h23 => (intro w hSw; (try dsimp only at hSw); first | (go_simp; done) | (go_simp; with_reducible rfl))
 (try simp only [Act.put, List.setIfInBounds_toArray, List.set_cons_zero, List.set_cons_succ])
 refine wpAnyH_ready (rs := [20]) ?k1_h20 (by simp) ?r_h20
 case k1_h20 => kernel_rfl
 refine AllReadyH.cons (o := ?oh20) ?hi_h20 (fun K hK => ?s_h20) ?m_h20
 case hi_h20 => (simp only [List.getElem?_toArray, List.getElem?_cons_succ, List.getElem?_cons_zero]; rfl)
 case m_h20 => exact AllReadyH.nil
 go_simp
 (go_at_call 15; refine (ropeG_calls x p A c B d _).mono ?_; rintro e w20 ⟨rfl, hb⟩; have Q20 := Lib.hid (HQ.next Q13.out hb); clear hb)
 (try go_wp2_with fail)
 refine hK.out _ _ Q20.out (fun hHeld => ?_)
 clear hK K
 (try simp only [Act.put, List.setIfInBounds_toArray, List.set_cons_zero, List.set_cons_succ])
 refine wpAnyH_ready (rs := [21]) ?k1_h21 (by simp) ?r_h21
 case k1_h21 => kernel_rfl
 refine AllReadyH.cons (o := ?oh21) ?hi_h21 (fun K hK => ?s_h21) ?m_h21
 case hi_h21 => (simp only [List.getElem?_toArray, List.getElem?_cons_succ, List.getElem?_cons_zero]; rfl)
 case m_h21 => exact AllReadyH.nil
 go_simp
 (go_at_call 16; refine (text_rpS (p := p) (s := x.f2) (HS.out.rp.below (below_step BV.out (HQ.b Q20.out)))).mono ?_; rintro e w21 ⟨rfl, hb⟩; have QZ := Lib.hid (HQ.next Q20.out hb); clear hb)
 (try go_wp2_with fail)
 refine hK.out _ _ QZ.out (fun hHeld => ?_)
 clear hK K
 (try simp only [Act.put, List.setIfInBounds_toArray, List.set_cons_zero, List.set_cons_succ])
 refine wpAnyH_take (i := 24) (oi := ?oh24) (v := ?vh24) ?hi_h24 ?k1_h24 ?k2_h24 ?k3_h24 (fun _ _ _ h => h) (Or.inl ⟨?g_h24, ?y_h24⟩) (by assumption) ?r_h24
 case hi_h24 => (simp only [List.getElem?_toArray, List.getElem?_cons_succ, List.getElem?_cons_zero]; rfl)
 case k1_h24 => kernel_rfl
 case k2_h24 => kernel_rfl
 case k3_h24 => kernel_rfl
 case g_h24 => rfl
 case y_h24 => (intro w hSw; (try dsimp only at hSw); first | (go_simp; done) | (go_simp; with_reducible rfl))
 (try simp only [Act.put, List.setIfInBounds_toArray, List.set_cons_zero, List.set_cons_succ])
 refine wpAnyH_take (i := 25) (oi := ?oh25) (v := ?vh25) ?hi_h25 ?k1_h25 ?k2_h25 ?k3_h25 (fun _ _ _ h => h) (Or.inl ⟨?g_h25, ?y_h25⟩) (by assumption) ?r_h25
 case hi_h25 => (simp only [List.getElem?_toArray, List.getElem?_cons_succ, List.getElem?_cons_zero]; rfl)
 case k1_h25 => kernel_rfl
 case k2_h25 => kernel_rfl
 case k3_h25 => kernel_rfl
 case g_h25 => rfl
 case y_h25 => (intro w hSw; (try dsimp only at hSw); first | (go_simp; done) | (go_simp; with_reducible rfl))
 (try simp only [Act.put, List.setIfInBounds_toArray, List.set_cons_zero, List.set_cons_succ])
 refine wpAnyH_take (i := 26) (oi := ?oh26) (v := ?vh26) ?hi_h26 ?k1_h26 ?k2_h26 ?k3_h26 (fun _ _ _ h => h) (Or.inl ⟨?g_h26, ?y_h26⟩) (by assumption) ?r_h26
 case hi_h26 => (simp only [List.getElem?_toArray, List.getElem?_cons_succ, List.getElem?_cons_zero]; rfl)
 case k1_h26 => kernel_rfl
 case k2_h26 => kernel_rfl
 case k3_h26 => kernel_rfl
 case g_h26 => rfl
 case y_h26 => (intro w hSw; (try dsimp only at hSw); first | (go_simp; done) | (go_simp; with_reducible rfl))
 (try simp only [Act.put, List.setIfInBounds_toArray, List.set_cons_zero, List.set_cons_succ])
 refine wpAnyH_done (by kernel_rfl) ?_ _
 refine NoPanic.normal ?_
 go_wp2
 go_ret
 exact ⟨rfl, below_step BV.out (HQ.b QZ.out)⟩
/-- A segment is laid in a block of its own. -/
abbrev lay5 (W : World) (g : Nat) (y : G) (p A : Option Addr) (c : Nat) (B : Option Addr) (d : Nat) : World := ((((W.setCell ⟨g, 0, none⟩ (.int .i64 y.f0)).setCell ⟨g, 1, none⟩ (.int .i64 y.f1)).setCell ⟨g, 2, none⟩ (.pointer p)).setCell ⟨g, 3, none⟩ (.slice A y.f3.length c)).setCell ⟨g, 4, none⟩ (.slice B y.f4.length d)
theorem lay5_sp {W : World} {g : Nat} {y : G} {p A : Option Addr} {c : Nat} {B : Option Addr} {d : Nat} {z : G} {p' A' : Option Addr} {c' : Nat} {B' : Option Addr} {d' : Nat} (h : SP W z p' A' c' B' d') (hg : W.heap[g]? = some (.cells zC 31 (0, 0))) : SP (lay5 W g y p A c B d) z p' A' c' B' d' ∧ (lay5 W g y p A c B d).heap[g]? = some (.cells (sgC y p A c B d) 31 (0, 0)) := by
 have s := sp_set (sp_set (sp_set (sp_set (sp_set ⟨h, hg⟩ 0 (.int .i64 y.f0)) 1 (.int .i64 y.f1)) 2 (.pointer p)) 3 (.slice A y.f3.length c)) 4 (.slice B y.f4.length d)
 exact ⟨s.1, by simpa using s.2⟩
theorem lay5_below {w W : World} {g : Nat} {y : G} {p A : Option Addr} {c : Nat} {B : Option Addr} {d : Nat} (h : Below w.heap.size w W) (hg : w.heap.size ≤ g) : Below w.heap.size w (lay5 W g y p A c B d) := below_set (below_set (below_set (below_set (below_set h hg) hg) hg) hg) hg
theorem lay5_far {W : World} {g k : Nat} {y : G} {p A : Option Addr} {c : Nat} {B : Option Addr} {d : Nat} (h : g ≠ k) : (lay5 W g y p A c B d).heap[k]? = W.heap[k]? := by
 have e := fun (V : World) (j : Nat) (u : Value) => Below.heap_setCell V ⟨g, j, none⟩ u k (fun e => h e.symm)
 exact (e _ _ _).trans ((e _ _ _).trans ((e _ _ _).trans ((e _ _ _).trans (e _ _ _))))
/-- The law's own segment of a text. -/
def tG (s : ByteArray) : G := ⟨1, 2, s, [], []⟩
theorem ins_text {s : ByteArray} (hv : Lib.validD s.data.toList = true) : insG (nG 1 2) 0 s 0 = tG s := by
 have hv0 : Lib.validD (ByteArray.mk #[]).data.toList = true := by decide +kernel
 have h0 := (cnt_in hv0 (by decide)).1
 have e1 : clampI (cnt (nG 1 2).f2) 0 = 0 := by
  unfold clampI
  rw [if_neg (by decide : ¬ (0 : Int) < 0)]
  rw [if_neg]
  show ¬ cnt (ByteArray.mk #[]) < 0
  omega
 have el : lets (ByteArray.mk #[]) = [] := lets_eq (fun c hc => by cases hc) rfl
 unfold insG tG
 rw [e1]
 show (⟨1, 2, putT (ByteArray.mk #[]) 0 s, putL 0 (cnt s) 0 [], normY (([] : List S70).map (Mk.mvY (Mk.toP 0 (cnt s))))⟩ : G) = ⟨1, 2, s, [], []⟩
 have e2 : putT (ByteArray.mk #[]) 0 s = s := by
  unfold putT
  rw [el]
  simp only [List.take_nil, List.drop_nil, List.nil_append, List.append_nil]
  exact ofL_lets hv
 have e3 : putL 0 (cnt s) 0 [] = [] := by
  unfold putL putGo freshS
  rw [if_neg (by decide), if_pos (by decide)]
  exact addL_none _ _ (Int.le_refl _)
 rw [e2, e3]
 rfl
theorem ins_ok (s : ByteArray) (hv : Lib.validD s.data.toList = true) (hs : s.size ≤ 1073741824) : InsOk (nG 1 2) s := by
 refine ⟨⟨by decide, by decide, by decide⟩, ?_, by decide, hs, hv⟩
 unfold okB
 have hv0 : Lib.validD (nG 1 2).f2.data.toList = true := by decide +kernel
 rw [hv0]
 rfl
set_option maxRecDepth 1000000 in
set_option maxHeartbeats 4000000 in
theorem text5_calls (s : ByteArray) (w : World) (hT : Tabs w) (hv : Lib.validD s.data.toList = true) (hs : s.size ≤ 1000) :
  Calls Tryd.prog 9 #[.string s] w fun e w' => ∃ p A c B d, e = .returned (.agg (sgC (tG s) p A c B d)) ∧ SP w' (tG s) p A c B d ∧ Below w.heap.size w w' := by
 have HT := Lib.hid hT
 have HV := Lib.hid hv
 have HO := Lib.hid (ins_ok s hv (by omega))
 have HI := Lib.hid (ins_text hv)
 clear hT hv
 go_enter Tryd.func9, Tryd.ntmps9
 go_upto_region 1 with fail
 refine gen2 (φ := fun W => Code.wp _ _ _ _ W) (P := fun W => Below w.heap.size w W ∧ W.heap[w.heap.size]? = some (.cells zC 31 (0, 0))) ⟨below_alloc (Below.refl _ _) _, blk_new w _⟩ ?_
 rintro V0 ⟨hb0, h20⟩
 have B0 := Lib.hid hb0
 have X2 := Lib.hid h20
 clear hb0 h20
 go_upto_region 2 with (first
  | (go_at_call 31; refine (segNew_calls 1 2 _).mono ?_; rintro e w1 ⟨rfl, hb1⟩; have B1 := Lib.hid hb1; clear hb1)
  | (go_at_call 14; refine (of5_calls s _ (by omega) (HT.out.below (below_step B0.out B1.out)) HV.out).mono ?_; rintro e w2 ⟨q, rfl, hq, hb2⟩; have HQ := Lib.hid hq; have B2 := Lib.hid (below_step B1.out hb2); clear hq hb2)
  | (go_at_call 13; refine (segIns_calls (nG 1 2) none none 0 none 0 q s 0 0 1000 _ (nG_sp 1 2 _) HQ.out HO.out).mono ?_; rw [HI.out]; rintro e w3 h3; rw [if_neg (by show ¬ ((1000 : Int) < ((0 : Nat) : Int) + (s.size : Int)); omega)] at h3; obtain ⟨p, A, c, B, d, e3, s3, hb3⟩ := h3; subst e3; have S3 := Lib.hid s3; have B3 := Lib.hid (below_step B2.out hb3); clear s3 hb3)
  | ((with_reducible refine gate_dst (N := 3) rfl ?_); refine box_event ?hg (N := 3) ?hd (cs := zC) (t := 31) ?hr ?_; (case hd => rfl); (case hg => rfl); (case hr => first | (go_simp; done) | (go_simp; rfl)); intro gS hgS wS hxS hbS; have GS := Lib.hid (show w.heap.size ≤ gS by rw [hgS]; exact (below_step B0.out B3.out).size); have GN := Lib.hid (show gS ≠ w.heap.size by rw [hgS]; exact Nat.ne_of_gt (blk_lt (blk_below X2.out B3.out))); have X2S := Lib.hid (blk_below (blk_below X2.out B3.out) hbS); have XS := Lib.hid hxS; have BS := Lib.hid (below_step (below_step B0.out B3.out) hbS); have SS := Lib.hid (S3.out.below hbS); have q0 := (blk_cell hxS 0).trans rfl; have q1 := (blk_cell hxS 1).trans rfl; have q2 := (blk_cell hxS 2).trans rfl; have q3 := (blk_cell hxS 3).trans rfl; have q4 := (blk_cell hxS 4).trans rfl; have z0 := blk_frozen hxS 0; have z1 := blk_frozen hxS 1; have z2 := blk_frozen hxS 2; have z3 := blk_frozen hxS 3; have z4 := blk_frozen hxS 4; clear hgS hxS hbS))
 refine gen2 (φ := fun W => Code.wp _ _ _ _ W) (P := fun W => Below w.heap.size w W ∧ (SP W (tG s) p A c B d ∧ W.heap[gS]? = some (.cells (sgC (tG s) p A c B d) 31 (0, 0))) ∧ W.heap[w.heap.size]? = some (.cells zC 31 (0, 0))) ⟨lay5_below BS.out GS.out, lay5_sp SS.out XS.out, (lay5_far GN.out).trans X2S.out⟩ ?_
 rintro V ⟨hb, ⟨hs, hg⟩, h2⟩
 have BV := Lib.hid hb
 have SV := Lib.hid hs
 have X2V := Lib.hid h2
 have s0 := (blk_cell hg 0).trans rfl
 have s1 := (blk_cell hg 1).trans rfl
 have s2 := (blk_cell hg 2).trans rfl
 have s3 := (blk_cell hg 3).trans rfl
 have s4 := (blk_cell hg 4).trans rfl
 clear hb hs hg h2 q0 q1 q2 q3 q4 z0 z1 z2 z3 z4
 have r0 := (blk_cell X2V.out 0).trans rfl
 have z0 := blk_frozen X2V.out 0
 have r1 := (blk_cell X2V.out 1).trans rfl
 have z1 := blk_frozen X2V.out 1
 have r2 := (blk_cell X2V.out 2).trans rfl
 have z2 := blk_frozen X2V.out 2
 have r3 := (blk_cell X2V.out 3).trans rfl
 have z3 := blk_frozen X2V.out 3
 have r4 := (blk_cell X2V.out 4).trans rfl
 have z4 := blk_frozen X2V.out 4
 go_wp2
 have L := lay5_sp (y := tG s) (p := p) (A := A) (c := c) (B := B) (d := d) SV.out X2V.out
 refine bodyPost_ret (results_cell_row rfl _ _ w.heap.size 31 (sgC (tG s) p A c B d) (0, 0) _ rfl (by simpa using L.2) Tryd.underlying31 rfl (by kernel_rfl)) rfl ?_
 exact ⟨p, A, c, B, d, rfl, L.1, lay5_below BV.out (Nat.le_refl _)⟩
end Go.Proofs.YtjphmebhofkhcaaDoor.Seg
/- Segments: the walk of the law SegmentLoads. Conditions: none beside the row's. -/
namespace Go.Proofs.YtjphmebhofkhcaaDoor.Seg
open Go.RowKit Go.Proofs.YtjphmebhofkhcaaDoorPl Go.Proofs.YtjphmebhofkhcaaDoorW.PrintWords Go.Proofs.YtjphmebhofkhcaaDoorW.PrintLast Go.Proofs.YtjphmebhofkhcaaDoorW.PrintMore Go.Proofs.YtjphmebhofkhcaaDoor.Rope Go.Proofs.YtjphmebhofkhcaaDoor.PSegAll Go.Proofs.YtjphmebhofkhcaaDoor.Pure
set_option linter.unusedVariables false
set_option linter.unusedSimpArgs false
abbrev lay0 (W : World) (g : Nat) : World := ((((W.setCell ⟨g, 0, none⟩ (.int .i64 0)).setCell ⟨g, 1, none⟩ (.int .i64 0)).setCell ⟨g, 2, none⟩ (.pointer none)).setCell ⟨g, 3, none⟩ (.slice none 0 0)).setCell ⟨g, 4, none⟩ (.slice none 0 0)
theorem lay0_sp {W : World} {g : Nat} (hg : W.heap[g]? = some (.cells zC 31 (0, 0))) : (lay0 W g).heap[g]? = some (.cells zC 31 (0, 0)) := by
 have s := blk_set (blk_set (blk_set (blk_set (blk_set hg 0 (.int .i64 0)) 1 (.int .i64 0)) 2 (.pointer none)) 3 (.slice none 0 0)) 4 (.slice none 0 0)
 simpa using s
theorem lay0_below {w W : World} {g : Nat} (h : Below w.heap.size w W) (hg : w.heap.size ≤ g) : Below w.heap.size w (lay0 W g) := below_set (below_set (below_set (below_set (below_set h hg) hg) hg) hg) hg
def smallB (x : G) : Bool := decide (x.f2.size ≤ 1500) && decide (x.f3.length ≤ 300) && decide (x.f4.length ≤ 300)
theorem small_f (x : G) : chancellaw05_small.f x.f0 x.f1 x.f2 x.f3 x.f4 = some (smallB x) := by
 unfold chancellaw05_small.f smallB
 by_cases h1 : x.f2.size ≤ 1500
 ·rw [if_pos (by omega), decide_eq_true h1]
  by_cases h2 : x.f3.length ≤ 300
  ·rw [if_pos (by omega), decide_eq_true h2, Bool.true_and, Bool.true_and]
   congr 1
   exact decide_eq_decide.2 (by omega)
  ·rw [if_neg (by omega), decide_eq_false h2]
   rfl
 ·rw [if_neg (by omega), decide_eq_false h1]
  rfl
theorem small5_calls (x : G) (A : Option Addr) (c : Nat) (B : Option Addr) (d : Nat) (w : World) (h : GR w x A c B d) :
  Calls Tryd.prog 10 #[.agg (gC x A c B d)] w fun e w' => e = .returned (.bool (smallB x)) ∧ Below w.heap.size w w' := chancellaw05_small.calls x.f0 x.f1 x.f2 A c x.f3 B d x.f4 (smallB x) w h.r3 h.c3 h.r4 h.c4 (small_f x)
theorem small_iff {x : G} (h : smallB x = true) : x.f2.size ≤ 1500 ∧ x.f3.length ≤ 300 ∧ x.f4.length ≤ 300 := by
 unfold smallB at h
 rw [Bool.and_eq_true, Bool.and_eq_true, decide_eq_true_eq, decide_eq_true_eq, decide_eq_true_eq] at h
 exact ⟨h.1.1, h.1.2, h.2⟩
theorem small_sz {x : G} (h : smallB x = true) : Sz x := by
 obtain ⟨h1, h2, h3⟩ := small_iff h
 exact ⟨by omega, by omega, by omega⟩
set_option maxRecDepth 1000000 in
set_option maxHeartbeats 8000000 in
theorem segLoads_walk (x : G) (A : Option Addr) (c : Nat) (B : Option Addr) (d : Nat) (w : World) (hT : Tabs w) (hr : GR w x A c B d) :
  Calls Tryd.prog 3 #[.agg (gC x A c B d)] w fun e w' => e = .returned (.bool true) ∧ Below w.heap.size w w' := by
 have HT := Lib.hid hT
 have HR := Lib.hid hr
 clear hT hr
 go_enter Tryd.func3, Tryd.ntmps3
 go_upto_region 1 with fail
 refine gen2 (φ := fun W => Code.wp _ _ _ _ W) (P := fun W => Below w.heap.size w W ∧ W.heap[w.heap.size]? = some (.cells (gC x A c B d) 25 (0, 0))) ⟨below_alloc (Below.refl _ _) _, blk_new w _⟩ ?_
 rintro V0 ⟨hb0, h10⟩
 have B0 := Lib.hid hb0
 have X1 := Lib.hid h10
 clear hb0 h10
 go_upto_region 3 with (first
  | (go_at_call 9; refine (text5_calls ⟨#[97, 98]⟩ _ (HT.out.below B0.out) (by decide +kernel) (by decide)).mono ?_; rintro e w1 ⟨p1, A1, c1, B1, d1, rfl, s1, hb1⟩; have S1 := Lib.hid s1; have BA := Lib.hid hb1; clear s1 hb1)
  | (go_at_call 8; refine (has5_calls (tG ⟨#[97, 98]⟩) p1 A1 c1 B1 d1 none 0 none 0 _ S1.out ⟨Nat.le_refl _, Nat.le_refl _, Kd.C_nil _ _, Kd.C_nil _ _⟩ ⟨(by decide), (by decide), (by decide)⟩).mono ?_; rintro e w2 ⟨rfl, hb2⟩; have BB := Lib.hid (below_step BA.out hb2); clear hb2))
 clear S1
 have X2 := Lib.hid (blk_below X1.out BB.out)
 have BX := Lib.hid (below_step B0.out BB.out)
 clear X1 B0 BA BB
 have y0 := (blk_cell X2.out 0).trans rfl
 have y1 := (blk_cell X2.out 1).trans rfl
 have y2 := (blk_cell X2.out 2).trans rfl
 have y3 := (blk_cell X2.out 3).trans rfl
 have y4 := (blk_cell X2.out 4).trans rfl
 obtain ⟨sb, hsb⟩ : ∃ b, b = smallB x := ⟨_, rfl⟩
 have HSB := Lib.hid hsb
 clear hsb
 cases sb with
 | false =>
  go_upto_region 4 with (go_at_call 10; refine (small5_calls x A c B d _ (HR.out.below BX.out)).mono ?_; rw [← HSB.out]; rintro e w2 ⟨rfl, hb2⟩; have BS := Lib.hid hb2; clear hb2)
  go_wp2
  go_ret
  exact ⟨rfl, below_step BX.out BS.out⟩
 | true =>
  have HZ := Lib.hid (small_sz HSB.out.symm)
  go_upto_region 5 with (go_at_call 10; refine (small5_calls x A c B d _ (HR.out.below BX.out)).mono ?_; rw [← HSB.out]; rintro e w2 ⟨rfl, hb2⟩; have BS := Lib.hid hb2; clear hb2)
  have X3 := Lib.hid (blk_below X2.out BS.out)
  have BY := Lib.hid (below_step BX.out BS.out)
  clear y0 y1 y2 y3 y4 X2 BX BS
  have y0 := (blk_cell X3.out 0).trans rfl
  have y1 := (blk_cell X3.out 1).trans rfl
  have y2 := (blk_cell X3.out 2).trans rfl
  have y3 := (blk_cell X3.out 3).trans rfl
  have y4 := (blk_cell X3.out 4).trans rfl
  obtain ⟨ob, hob⟩ : ∃ b, b = okB x := ⟨_, rfl⟩
  have HOB := Lib.hid hob
  clear hob
  cases ob with
  | false =>
   go_upto_region 6 with (first | (go_at_call 11; refine (segLoad_bad x A c B d _ (HT.out.below BY.out) (HR.out.below BY.out) HZ.out HOB.out.symm).mono ?_; rintro e w3 ⟨rfl, hb3⟩; have BL := Lib.hid hb3; have SL := Lib.hid (nG_sp 0 0 w3); clear hb3) | ((with_reducible refine gate_dst (N := 3) rfl ?_); refine box_event ?hg (N := 3) ?hd (cs := zC) (t := 31) ?hr ?_; (case hd => rfl); (case hg => rfl); (case hr => first | (go_simp; done) | (go_simp; rfl)); intro gS hgS wS hxS hbS; have GS := Lib.hid (show w2.heap.size ≤ gS by rw [hgS]; exact BL.out.size); have XS := Lib.hid hxS; have BS := Lib.hid (below_step BL.out hbS); have SS := Lib.hid (SL.out.below hbS); have q0 := (blk_cell hxS 0).trans rfl; have q1 := (blk_cell hxS 1).trans rfl; have q2 := (blk_cell hxS 2).trans rfl; have q3 := (blk_cell hxS 3).trans rfl; have q4 := (blk_cell hxS 4).trans rfl; have z0 := blk_frozen hxS 0; have z1 := blk_frozen hxS 1; have z2 := blk_frozen hxS 2; have z3 := blk_frozen hxS 3; have z4 := blk_frozen hxS 4; clear hgS hxS hbS))
   refine gen2 (φ := fun W => Code.wp _ _ _ _ W) (P := fun W => W.heap[gS]? = some (.cells zC 31 (0, 0)) ∧ Below w2.heap.size w2 W) ⟨lay0_sp XS.out, lay0_below (w := w2) BS.out GS.out⟩ ?_
   rintro V ⟨hg, hb⟩
   have XW := Lib.hid hg
   have BW := Lib.hid hb
   have X4 := Lib.hid (blk_below X3.out hb)
   clear hg hb q0 q1 q2 q3 q4 z0 z1 z2 z3 z4 y0 y1 y2 y3 y4 SS XS BS GS SL BL
   have y0 := (blk_cell X4.out 0).trans rfl
   have y1 := (blk_cell X4.out 1).trans rfl
   have y2 := (blk_cell X4.out 2).trans rfl
   have y3 := (blk_cell X4.out 3).trans rfl
   have y4 := (blk_cell X4.out 4).trans rfl
   go_upto_region 7 with (go_at_call 12; refine (right5_calls x A c B d _ (HR.out.below (below_step BY.out BW.out)) HZ.out).mono ?_; rw [← HOB.out]; rintro e w4 ⟨rfl, hb4⟩; have B4 := Lib.hid hb4; clear hb4)
   clear y0 y1 y2 y3 y4
   have s0 := (blk_cell (blk_below XW.out B4.out) 0).trans rfl
   have s1 := (blk_cell (blk_below XW.out B4.out) 1).trans rfl
   have s2 := (blk_cell (blk_below XW.out B4.out) 2).trans rfl
   have s3 := (blk_cell (blk_below XW.out B4.out) 3).trans rfl
   have s4 := (blk_cell (blk_below XW.out B4.out) 4).trans rfl
   go_wp2_with fail
   (go_at_call 8; refine (has5_calls (nG 0 0) none none 0 none 0 none 0 none 0 _ (nG_sp 0 0 _) ⟨Nat.le_refl _, Nat.le_refl _, Kd.C_nil _ _, Kd.C_nil _ _⟩ ⟨(by decide), (by decide), (by decide)⟩).mono ?_; rintro e w5 ⟨rfl, hb5⟩)
   go_wp2
   go_ret
   exact ⟨rfl, below_step (below_step (below_step BY.out BW.out) B4.out) hb5⟩
  | true =>
   go_upto_region 6 with (first | (go_at_call 11; refine (segLoad_good x A c B d _ (HT.out.below BY.out) (HR.out.below BY.out) HZ.out HOB.out.symm).mono ?_; rintro e w3 ⟨p, A5, c5, B5, d5, rfl, s3, hb3⟩; have BL := Lib.hid hb3; have SL := Lib.hid s3; clear s3 hb3) | ((with_reducible refine gate_dst (N := 3) rfl ?_); refine box_event ?hg (N := 3) ?hd (cs := zC) (t := 31) ?hr ?_; (case hd => rfl); (case hg => rfl); (case hr => first | (go_simp; done) | (go_simp; rfl)); intro gS hgS wS hxS hbS; have GS := Lib.hid (show w2.heap.size ≤ gS by rw [hgS]; exact BL.out.size); have XS := Lib.hid hxS; have BS := Lib.hid (below_step BL.out hbS); have SS := Lib.hid (SL.out.below hbS); have q0 := (blk_cell hxS 0).trans rfl; have q1 := (blk_cell hxS 1).trans rfl; have q2 := (blk_cell hxS 2).trans rfl; have q3 := (blk_cell hxS 3).trans rfl; have q4 := (blk_cell hxS 4).trans rfl; have z0 := blk_frozen hxS 0; have z1 := blk_frozen hxS 1; have z2 := blk_frozen hxS 2; have z3 := blk_frozen hxS 3; have z4 := blk_frozen hxS 4; clear hgS hxS hbS))
   refine gen2 (φ := fun W => Code.wp _ _ _ _ W) (P := fun W => (SP W x p A5 c5 B5 d5 ∧ W.heap[gS]? = some (.cells (sgC x p A5 c5 B5 d5) 31 (0, 0))) ∧ Below w2.heap.size w2 W) ⟨lay5_sp (y := x) (p := p) (A := A5) (c := c5) (B := B5) (d := d5) SS.out XS.out, lay5_below (w := w2) BS.out GS.out⟩ ?_
   rintro V ⟨⟨hs, hg⟩, hb⟩
   have SW := Lib.hid hs
   have XW := Lib.hid hg
   have BW := Lib.hid hb
   have X4 := Lib.hid (blk_below X3.out hb)
   clear hs hg hb q0 q1 q2 q3 q4 z0 z1 z2 z3 z4 y0 y1 y2 y3 y4 SS XS BS GS SL BL
   have y0 := (blk_cell X4.out 0).trans rfl
   have y1 := (blk_cell X4.out 1).trans rfl
   have y2 := (blk_cell X4.out 2).trans rfl
   have y3 := (blk_cell X4.out 3).trans rfl
   have y4 := (blk_cell X4.out 4).trans rfl
   go_upto_region 8 with (go_at_call 12; refine (right5_calls x A c B d _ (HR.out.below (below_step BY.out BW.out)) HZ.out).mono ?_; rw [← HOB.out]; rintro e w4 ⟨rfl, hb4⟩; have B4 := Lib.hid hb4; clear hb4)
   clear y0 y1 y2 y3 y4
   have s0 := (blk_cell (blk_below XW.out B4.out) 0).trans rfl
   have s1 := (blk_cell (blk_below XW.out B4.out) 1).trans rfl
   have s2 := (blk_cell (blk_below XW.out B4.out) 2).trans rfl
   have s3 := (blk_cell (blk_below XW.out B4.out) 3).trans rfl
   have s4 := (blk_cell (blk_below XW.out B4.out) 4).trans rfl
   have y0 := (blk_cell (blk_below X4.out B4.out) 0).trans rfl
   have y1 := (blk_cell (blk_below X4.out B4.out) 1).trans rfl
   have y2 := (blk_cell (blk_below X4.out B4.out) 2).trans rfl
   have y3 := (blk_cell (blk_below X4.out B4.out) 3).trans rfl
   have y4 := (blk_cell (blk_below X4.out B4.out) 4).trans rfl
   go_wp2_with fail
   (go_at_call 8; refine (has5_calls x p A5 c5 B5 d5 A c B d _ (SW.out.below B4.out) (HR.out.below (below_step (below_step BY.out BW.out) B4.out)) HZ.out).mono ?_; rintro e w5 ⟨rfl, hb5⟩)
   go_wp2
   go_ret
   exact ⟨rfl, below_step (below_step (below_step BY.out BW.out) B4.out) hb5⟩
end Go.Proofs.YtjphmebhofkhcaaDoor.Seg
