/- Segments: letters of a text, places, small walks. Conditions: texts of at most 2^40 bytes. -/
import Derived.Test.YtjphmebhofkhcaaDoorGE
import Derived.Test.YtjphmebhofkhcaaDoorGD
import Derived.Test.YtjphmebhofkhcaaDoorGHeld
import Derived.Test.YtjphmebhofkhcaaDoorPSegAllx0
import Derived.Test.YtjphmebhofkhcaaDoorPSegAllx1
import Derived.Test.YtjphmebhofkhcaaDoorPSegAllx2
import Derived.Test.YtjphmebhofkhcaaDoorPSegAllx3
import Derived.Test.YtjphmebhofkhcaaDoorPSegAllx4
import Derived.Test.YtjphmebhofkhcaaDoorPSegAllx5
import Derived.Test.YtjphmebhofkhcaaDoorPSegAllx6
import Derived.Test.YtjphmebhofkhcaaDoorPSegAllx7
import Derived.Test.YtjphmebhofkhcaaDoorPSegAllx8
import Derived.Test.YtjphmebhofkhcaaDoorPSegAllx9
import Derived.Test.YtjphmebhofkhcaaDoorPSegAllx10
import Derived.Test.YtjphmebhofkhcaaDoorPSegAllx11
import Derived.Test.YtjphmebhofkhcaaDoorPSegAllx12
namespace Go.Proofs.YtjphmebhofkhcaaDoor.Seg
open Go.RowKit Go.Proofs.YtjphmebhofkhcaaDoorPl Go.Proofs.YtjphmebhofkhcaaDoorW.PrintWords Go.Proofs.YtjphmebhofkhcaaDoorW.PrintLast Go.Proofs.YtjphmebhofkhcaaDoorW.PrintMore Go.Proofs.YtjphmebhofkhcaaDoor.Rope Go.Proofs.YtjphmebhofkhcaaDoor.PSegAll Go.Proofs.YtjphmebhofkhcaaDoor.Pure
set_option linter.unusedVariables false
set_option linter.unusedSimpArgs false
attribute [local go_sem] max2_int min2_int max_two min_two
theorem letts_uniq : ∀ {cs ds : List (List UInt8)}, Letts cs → Letts ds → cs.flatten = ds.flatten → cs = ds
 | [], [], _, _, _ => rfl
 | [], d :: r, _, hd, h => by
  have h1 := (hd d (by simp)).pos
  have h2 := congrArg List.length h
  rw [List.flatten_cons, List.length_append] at h2
  simp only [List.flatten_nil, List.length_nil] at h2
  omega
 | c :: r, [], hc, _, h => by
  have h1 := (hc c (by simp)).pos
  have h2 := congrArg List.length h
  rw [List.flatten_cons, List.length_append] at h2
  simp only [List.flatten_nil, List.length_nil] at h2
  omega
 | c :: r, d :: q, hc, hd, h => by
  have e1 := lett_append (hc c (by simp)) r.flatten
  have e2 := lett_append (hd d (by simp)) q.flatten
  rw [List.flatten_cons, List.flatten_cons] at h
  rw [h, e2] at e1
  have el : c.length = d.length := by rw [← (hc c (by simp)).1, ← (hd d (by simp)).1, e1]
  have ec : c = d := by
   have := congrArg (List.take c.length) h
   rw [List.take_left, el, List.take_left] at this
   exact this
  subst ec
  have er := List.append_cancel_left h
  rw [letts_uniq (fun x hx => hc x (by simp [hx])) (fun x hx => hd x (by simp [hx])) er]
/-- The letters of a right text. -/
noncomputable def lets (s : ByteArray) : List (List UInt8) := open Classical in if h : ∃ cs, Letts cs ∧ s.data.toList = cs.flatten then Classical.choose h else []
theorem lets_eq {s : ByteArray} {cs : List (List UInt8)} (hl : Letts cs) (h : s.data.toList = cs.flatten) : lets s = cs := by
 have hx : ∃ cs, Letts cs ∧ s.data.toList = cs.flatten := ⟨cs, hl, h⟩
 unfold lets
 rw [dif_pos hx]
 have h2 := Classical.choose_spec hx
 exact letts_uniq h2.1 hl (h2.2.symm.trans h)
theorem lets_ok {s : ByteArray} (hv : Lib.validD s.data.toList = true) : Letts (lets s) ∧ s.data.toList = (lets s).flatten := by
 obtain ⟨cs, hl, h⟩ := (validD_iff _).1 hv
 rw [lets_eq hl h]
 exact ⟨hl, h⟩
theorem cnt_lets {s : ByteArray} (hv : Lib.validD s.data.toList = true) (hs : s.size ≤ 1099511627776) : cnt s = ((lets s).length : Int) := cnt_eq (lets_ok hv).1 (lets_ok hv).2 hs
theorem lets_le {s : ByteArray} (hv : Lib.validD s.data.toList = true) : (lets s).length ≤ s.size := by
 have k := letts_le _ (lets_ok hv).1
 rw [← (lets_ok hv).2, toList_size] at k
 exact k
/-- A text of letters. -/
def ofL (cs : List (List UInt8)) : ByteArray := ⟨cs.flatten.toArray⟩
theorem ofL_data (cs : List (List UInt8)) : (ofL cs).data.toList = cs.flatten := by unfold ofL; simp
theorem ofL_eq {s : ByteArray} {cs : List (List UInt8)} (h : s.data.toList = cs.flatten) : s = ofL cs := by
 apply ByteArray.ext
 apply Array.ext'
 rw [h, ofL_data]
theorem ofL_lets {s : ByteArray} (hv : Lib.validD s.data.toList = true) : ofL (lets s) = s := (ofL_eq (lets_ok hv).2).symm
theorem ofL_size (cs : List (List UInt8)) : (ofL cs).size = cs.flatten.length := by rw [← ofL_data, toList_size]
noncomputable def putT (s : ByteArray) (a : Int) (t : ByteArray) : ByteArray := ofL ((lets s).take a.toNat ++ lets t ++ (lets s).drop a.toNat)
noncomputable def cutT (s : ByteArray) (a b : Int) : ByteArray := ofL (((lets s).take b.toNat).drop a.toNat)
/-- A place within a text. -/
def clampI (c a : Int) : Int := if c < (if a < 0 then 0 else a) then c else (if a < 0 then 0 else a)
theorem clamp_in {c a : Int} (h : 0 ≤ c) : 0 ≤ clampI c a ∧ clampI c a ≤ c := by unfold clampI; (repeat' split) <;> omega
theorem cnt_in {s : ByteArray} (hv : Lib.validD s.data.toList = true) (hs : s.size ≤ 1099511627776) : 0 ≤ cnt s ∧ cnt s ≤ s.size := by
 rw [cnt_lets hv hs]
 have := lets_le hv
 omega
set_option maxRecDepth 100000 in
set_option maxHeartbeats 800000 in
theorem clampG_calls (x : G) (p A : Option Addr) (c : Nat) (B : Option Addr) (d : Nat) (a : Int) (w : World) (hr : Rp w p x.f2) (hz : x.f2.size ≤ 1099511627776) :
  Calls Tryd.prog 42 #[.agg (sgC x p A c B d), .int .i64 a] w fun e w' => e = .returned (.int .i64 (clampI (cnt x.f2) a)) ∧ Below w.heap.size w w' := by
 obtain ⟨m, e1⟩ : ∃ z, (if a < 0 then (0 : Int) else a) = z := ⟨_, rfl⟩
 obtain ⟨n, hn⟩ : ∃ n, n = cnt x.f2 := ⟨_, rfl⟩
 obtain ⟨r, e2⟩ : ∃ z, (if n < m then n else m) = z := ⟨_, rfl⟩
 have er : clampI (cnt x.f2) a = r := by unfold clampI; rw [e1, ← hn]; exact e2
 rw [er]
 have HN := Lib.hid hn
 have HR := Lib.hid hr
 clear hr hn er
 go_enter Tryd.func42, Tryd.ntmps42
 go_wp2_with fail
 (go_at_call 36; refine (len_rp (HR.out.below (below_alloc (Below.refl _ _) _)) hz).mono ?_; rw [← HN.out]; rintro e w1 ⟨rfl, rfl⟩)
 go_wp2
 go_ret
 exact ⟨rfl, below_alloc (Below.refl _ _) _⟩
set_option maxRecDepth 100000 in
set_option maxHeartbeats 800000 in
theorem ropeG_calls (x : G) (p A : Option Addr) (c : Nat) (B : Option Addr) (d : Nat) (w : World) :
  Calls Tryd.prog 15 #[.agg (sgC x p A c B d)] w fun e w' => e = .returned (.pointer p) ∧ Below w.heap.size w w' := by
 go_enter Tryd.func15, Tryd.ntmps15
 go_wp2
 go_ret
 exact ⟨rfl, below_alloc (Below.refl _ _) _⟩
set_option maxRecDepth 100000 in
set_option maxHeartbeats 800000 in
theorem labelG_calls (x : G) (p A : Option Addr) (c : Nat) (B : Option Addr) (d : Nat) (w : World) :
  Calls Tryd.prog 23 #[.agg (sgC x p A c B d)] w fun e w' => e = .returned (.int .i64 x.f1) ∧ Below w.heap.size w w' := by
 go_enter Tryd.func23, Tryd.ntmps23
 go_wp2
 go_ret
 refine ⟨rfl, ?_⟩
 repeat (first | exact Below.refl _ _ | apply below_alloc | (refine below_set ?_ (by simp; try omega)))
set_option maxRecDepth 100000 in
set_option maxHeartbeats 800000 in
theorem of5_calls (s : ByteArray) (w : World) (hs : s.size ≤ 1099511627776) (hT : Tabs w) (hv : Lib.validD s.data.toList = true) :
  Calls Tryd.prog 14 #[.string s] w fun e w' => ∃ p, e = .returned (.pointer p) ∧ Rp w' p s ∧ Below w.heap.size w w' := by
 have HT := Lib.hid hT
 have HV := Lib.hid hv
 clear hT hv
 go_enter Tryd.func14, Tryd.ntmps14
 go_wp2_with fail
 (go_at_call 32; refine (new_rpS s _ hs HT.out HV.out).mono ?_; rintro e w1 ⟨p, rfl, hi, hb⟩)
 go_wp2
 go_ret
 exact ⟨p, rfl, hi, hb⟩
def nG (a b : Int) : G := ⟨a, b, ⟨#[]⟩, [], []⟩
theorem nG_sp (a b : Int) (w : World) : SP w (nG a b) none none 0 none 0 := ⟨⟨⟨Nat.le_refl _, Nat.le_refl _, Kd.C_nil _ _, Kd.C_nil _ _⟩, fun _ e => (by cases e), fun _ e => (by cases e)⟩, rp_none w⟩
set_option maxRecDepth 100000 in
set_option maxHeartbeats 800000 in
theorem segNew_calls (a b : Int) (w : World) : Calls Tryd.prog 31 #[.int .i64 a, .int .i64 b] w fun e w' => e = .returned (.agg (sgC (nG a b) none none 0 none 0)) ∧ Below w.heap.size w w' := by
 go_enter Tryd.func31, Tryd.ntmps31
 go_wp2
 refine bodyPost_ret (results_cell_row rfl _ _ w.heap.size 31 #[.int .i64 a, .int .i64 b, .pointer none, .slice none 0 0, .slice none 0 0] (0, 0) _ rfl (blk_newS rfl) Tryd.underlying31 rfl (by kernel_rfl)) rfl ?_
 exact ⟨rfl, below_alloc (Below.refl _ _) _⟩
end Go.Proofs.YtjphmebhofkhcaaDoor.Seg
/- Segments: the walk of Insert. Conditions: texts of at most 2^30 bytes in all. -/
namespace Go.Proofs.YtjphmebhofkhcaaDoor.Seg
open Go.RowKit Go.Proofs.YtjphmebhofkhcaaDoorPl Go.Proofs.YtjphmebhofkhcaaDoorW.PrintWords Go.Proofs.YtjphmebhofkhcaaDoorW.PrintLast Go.Proofs.YtjphmebhofkhcaaDoorW.PrintMore Go.Proofs.YtjphmebhofkhcaaDoor.Rope Go.Proofs.YtjphmebhofkhcaaDoor.PSegAll Go.Proofs.YtjphmebhofkhcaaDoor.Pure
set_option linter.unusedVariables false
set_option linter.unusedSimpArgs false
theorem bytes_rp {w : World} {p : Option Addr} {s : ByteArray} (h : Rp w p s) : Calls Tryd.prog 41 #[.pointer p] w fun e w' => e = .returned (.int .i64 (s.size : Int)) ∧ w = w' := by
 obtain ⟨t, cs, hi, hs⟩ := h
 have e : bytesO t = s.size := by rw [hi.bytes, ← hs, toList_size]
 rw [← e]
 exact bytes_calls t _ w hi.r
theorem put_rp {w : World} {p q : Option Addr} {s t : ByteArray} (a : Int) (h : Rp w p s) (k : Rp w q t) (hz : s.size + t.size ≤ 1099511627776) :
  Calls Tryd.prog 44 #[.pointer p, .int .i64 a, .pointer q] w fun e w' => ∃ r, e = .returned (.pointer r) ∧ Rp w' r (putT s a t) ∧ Below w.heap.size w w' := by
 obtain ⟨t1, cs, hi, hs⟩ := h
 obtain ⟨t2, ds, ki, ks⟩ := k
 have e1 : bytesO t1 = s.size := by rw [hi.bytes, ← hs, toList_size]
 have e2 : bytesO t2 = t.size := by rw [ki.bytes, ← ks, toList_size]
 refine (put_is a hi ki (by omega)).mono ?_
 rintro e w' ⟨v, rfl, hv, hb⟩
 obtain ⟨r, rfl, hr⟩ := hv.rp (s := putT s a t) (by unfold putT; rw [ofL_data, lets_eq hi.g.letts hs, lets_eq ki.g.letts ks])
 exact ⟨r, rfl, hr, hb⟩
/-- A segment behind a text that is put. -/
noncomputable def insG (x : G) (a : Int) (t : ByteArray) (m : Int) : G := ⟨x.f0, x.f1, putT x.f2 (clampI (cnt x.f2) a) t, putL (clampI (cnt x.f2) a) (cnt t) m x.f3, normY (x.f4.map (Mk.mvY (Mk.toP (clampI (cnt x.f2) a) (cnt t))))⟩
/-- What a walk over a segment of its own keeps. -/
structure IZ (w : World) (g5 g10 : Nat) (y : G) (p A : Option Addr) (c : Nat) (B : Option Addr) (d : Nat) (W : World) : Prop where
 b : Below w.heap.size w W
 lo5 : w.heap.size ≤ g5
 lo10 : w.heap.size ≤ g10
 ne : g5 ≠ g10
 h5 : W.heap[g5]? = some (.cells (sgC y p A c B d) 31 (0, 0))
 h10 : W.heap[g10]? = some (.cells zC 31 (0, 0))
 sp : SP W y p A c B d
theorem IZ.next {w W W' : World} {g5 g10 : Nat} {y : G} {p A : Option Addr} {c : Nat} {B : Option Addr} {d : Nat} (h : IZ w g5 g10 y p A c B d W) (hb : Below W.heap.size W W') : IZ w g5 g10 y p A c B d W' := ⟨below_step h.b hb, h.lo5, h.lo10, h.ne, blk_below h.h5 hb, blk_below h.h10 hb, h.sp.below hb⟩
/-- New marks are laid. -/
theorem IZ.marks {w W W' : World} {g5 g10 : Nat} {y : G} {p A : Option Addr} {c : Nat} {B : Option Addr} {d : Nat} (h : IZ w g5 g10 y p A c B d W) (hb : Below W.heap.size W W') {A' : Option Addr} {c' : Nat} {B' : Option Addr} {d' : Nat} {xs : List S67} {ys : List S70} {base : Nat} {ok ok' : Nat → Prop}
  (r3 : Kd.R kS 67 W' base ok (.slice A' xs.length c') xs) (r4 : Kd.R kY 70 W' base ok' (.slice B' ys.length d') ys) :
  IZ w g5 g10 ⟨y.f0, y.f1, y.f2, xs, ys⟩ p A' c' B' d' ((W'.setCell ⟨g5, 3, none⟩ (.slice A' xs.length c')).setCell ⟨g5, 4, none⟩ (.slice B' ys.length d')) := by
 have k := h.next hb
 have s1 : SP W' ⟨y.f0, y.f1, y.f2, xs, ys⟩ p A' c' B' d' := ⟨TR.of (x := ⟨y.f0, y.f1, y.f2, xs, ys⟩) r3 r4, k.sp.rp⟩
 have s2 := sp_set (sp_set ⟨s1, k.h5⟩ 3 (.slice A' xs.length c')) 4 (.slice B' ys.length d')
 refine ⟨below_set (below_set k.b h.lo5) h.lo5, h.lo5, h.lo10, h.ne, by simpa using s2.2, ?_, s2.1⟩
 exact (Below.heap_setCell _ ⟨g5, 4, none⟩ _ g10 h.ne.symm).trans ((Below.heap_setCell _ ⟨g5, 3, none⟩ _ g10 h.ne.symm).trans k.h10)
/-- A new text is laid. -/
theorem IZ.text {w W W' : World} {g5 g10 : Nat} {y : G} {p A : Option Addr} {c : Nat} {B : Option Addr} {d : Nat} (h : IZ w g5 g10 y p A c B d W) (hb : Below W.heap.size W W') {r : Option Addr} {s : ByteArray} (hr : Rp W' r s) :
  IZ w g5 g10 ⟨y.f0, y.f1, s, y.f3, y.f4⟩ r A c B d (W'.setCell ⟨g5, 2, none⟩ (.pointer r)) := by
 have k := h.next hb
 have s1 : SP W' ⟨y.f0, y.f1, s, y.f3, y.f4⟩ r A c B d := ⟨⟨⟨k.sp.c3, k.sp.c4, k.sp.r3, k.sp.r4⟩, k.sp.t3, k.sp.t4⟩, hr⟩
 have s2 := sp_set ⟨s1, k.h5⟩ 2 (.pointer r)
 refine ⟨below_set k.b h.lo5, h.lo5, h.lo10, h.ne, by simpa using s2.2, ?_, s2.1⟩
 exact (Below.heap_setCell _ ⟨g5, 2, none⟩ _ g10 h.ne.symm).trans k.h10
/-- The answer's segment is laid. -/
theorem IZ.out5 {w W : World} {g5 g10 : Nat} {y : G} {p A : Option Addr} {c : Nat} {B : Option Addr} {d : Nat} (h : IZ w g5 g10 y p A c B d W) :
  (SP (((((W.setCell ⟨g10, 0, none⟩ (.int .i64 y.f0)).setCell ⟨g10, 1, none⟩ (.int .i64 y.f1)).setCell ⟨g10, 2, none⟩ (.pointer p)).setCell ⟨g10, 3, none⟩ (.slice A y.f3.length c)).setCell ⟨g10, 4, none⟩ (.slice B y.f4.length d)) y p A c B d ∧ (((((W.setCell ⟨g10, 0, none⟩ (.int .i64 y.f0)).setCell ⟨g10, 1, none⟩ (.int .i64 y.f1)).setCell ⟨g10, 2, none⟩ (.pointer p)).setCell ⟨g10, 3, none⟩ (.slice A y.f3.length c)).setCell ⟨g10, 4, none⟩ (.slice B y.f4.length d)).heap[g10]? = some (.cells (sgC y p A c B d) 31 (0, 0))) ∧ Below w.heap.size w (((((W.setCell ⟨g10, 0, none⟩ (.int .i64 y.f0)).setCell ⟨g10, 1, none⟩ (.int .i64 y.f1)).setCell ⟨g10, 2, none⟩ (.pointer p)).setCell ⟨g10, 3, none⟩ (.slice A y.f3.length c)).setCell ⟨g10, 4, none⟩ (.slice B y.f4.length d)) := by
 have s := sp_set (sp_set (sp_set (sp_set (sp_set ⟨h.sp, h.h10⟩ 0 (.int .i64 y.f0)) 1 (.int .i64 y.f1)) 2 (.pointer p)) 3 (.slice A y.f3.length c)) 4 (.slice B y.f4.length d)
 exact ⟨⟨s.1, by simpa using s.2⟩, below_set (below_set (below_set (below_set (below_set h.b h.lo10) h.lo10) h.lo10) h.lo10) h.lo10⟩
/-- What may be asked of Insert. -/
structure InsOk (x : G) (t : ByteArray) : Prop where
 z : Sz x
 v : okB x = true
 b1 : x.f2.size ≤ 1073741824
 b2 : t.size ≤ 1073741824
 vt : Lib.validD t.data.toList = true
theorem InsOk.each {x : G} {t : ByteArray} (h : InsOk x t) : ∀ s ∈ x.f3, 0 < s.f0 ∧ 0 ≤ s.f1 ∧ s.f1 < s.f2 ∧ s.f2 ≤ cnt x.f2 := ok_each (Mk.right_iff.1 (okB_true h.v).2).1
theorem InsOk.cnt {x : G} {t : ByteArray} (h : InsOk x t) : (0 ≤ Seg.cnt x.f2 ∧ Seg.cnt x.f2 ≤ 1073741824) ∧ 0 ≤ Seg.cnt t ∧ Seg.cnt t ≤ 1073741824 := by
 have h1 := cnt_in (okB_true h.v).1 h.z.s2
 have h2 := cnt_in h.vt (by have := h.b2; omega)
 have := h.b1
 have := h.b2
 omega
set_option maxRecDepth 1000000 in
set_option maxHeartbeats 4000000 in
theorem segIns_calls (x : G) (p A : Option Addr) (c : Nat) (B : Option Addr) (d : Nat) (q : Option Addr) (t : ByteArray) (a m quota : Int) (w : World) (hs : SP w x p A c B d) (hq : Rp w q t) (ho : InsOk x t) :
  Calls Tryd.prog 13 #[.agg (sgC x p A c B d), .int .i64 a, .pointer q, .int .i64 m, .int .i64 quota] w fun e w' => if quota < (x.f2.size : Int) + (t.size : Int) then e = .returned (.tuple #[.agg (sgC x p A c B d), .bool false]) ∧ Below w.heap.size w w' else RetSeg (insG x a t m) w e w' := by
 have HS := Lib.hid hs
 have HQ := Lib.hid hq
 have HO := Lib.hid ho
 have ws := IntWalk.i64_in ((x.f2.size : Int) + (t.size : Int)) (by have := ho.b1; have := ho.b2; omega)
 clear hs hq ho
 by_cases hg : quota < (x.f2.size : Int) + (t.size : Int)
 ·simp only [if_pos hg]
  go_enter Tryd.func13, Tryd.ntmps13
  go_upto_region 1 with fail
  refine gen2 (φ := fun W => Code.wp _ _ _ _ W) (P := fun W => IZ w w.heap.size (w.heap.size + 1) x p A c B d W) ⟨below_alloc (below_alloc (Below.refl _ _) _) _, Nat.le_refl _, by omega, by omega, blk_alloc (blk_new w _) _, blk_newS (by simp), HS.out.below (below_alloc (below_alloc (Below.refl _ _) _) _)⟩ ?_
  intro V0 hV0
  have Z0 := Lib.hid hV0
  have x2 := (blk_cell hV0.h5 2).trans rfl
  clear hV0
  have dg : decide (quota < (x.f2.size : Int) + (t.size : Int)) = true := by simpa using hg
  have x0 := (blk_cell Z0.out.h5 0).trans rfl
  have x1 := (blk_cell Z0.out.h5 1).trans rfl
  have x3 := (blk_cell Z0.out.h5 3).trans rfl
  have x4 := (blk_cell Z0.out.h5 4).trans rfl
  have r0 := (blk_cell Z0.out.h10 0).trans rfl
  have z0 := blk_frozen Z0.out.h10 0
  have r1 := (blk_cell Z0.out.h10 1).trans rfl
  have z1 := blk_frozen Z0.out.h10 1
  have r2 := (blk_cell Z0.out.h10 2).trans rfl
  have z2 := blk_frozen Z0.out.h10 2
  have r3 := (blk_cell Z0.out.h10 3).trans rfl
  have z3 := blk_frozen Z0.out.h10 3
  have r4 := (blk_cell Z0.out.h10 4).trans rfl
  have z4 := blk_frozen Z0.out.h10 4
  go_wp2_with fail
  (go_at_call 41; refine (bytes_rp Z0.out.sp.rp).mono ?_; rintro e w1 ⟨rfl, rfl⟩)
  go_wp2_with fail
  (go_at_call 41; refine (bytes_rp (HQ.out.below Z0.out.b)).mono ?_; rintro e w1 ⟨rfl, rfl⟩)
  go_wp2
  refine bodyPost_ret (results_ct rfl _ _ (w.heap.size + 1) 31 (sgC x p A c B d) (0, 0) _ rfl (by simpa using Z0.out.out5.1.2) Tryd.underlying31 rfl (by kernel_rfl)) rfl ?_
  exact ⟨rfl, Z0.out.out5.2⟩
 ·simp only [if_neg hg]
  go_enter Tryd.func13, Tryd.ntmps13
  go_upto_region 1 with fail
  refine gen2 (φ := fun W => Code.wp _ _ _ _ W) (P := fun W => IZ w w.heap.size (w.heap.size + 1) x p A c B d W) ⟨below_alloc (below_alloc (Below.refl _ _) _) _, Nat.le_refl _, by omega, by omega, blk_alloc (blk_new w _) _, blk_newS (by simp), HS.out.below (below_alloc (below_alloc (Below.refl _ _) _) _)⟩ ?_
  intro V0 hV0
  have Z0 := Lib.hid hV0
  have x2 := (blk_cell hV0.h5 2).trans rfl
  clear hV0
  have dg : decide (quota < (x.f2.size : Int) + (t.size : Int)) = false := by simpa using hg
  go_wp2_with fail
  (go_at_call 41; refine (bytes_rp Z0.out.sp.rp).mono ?_; rintro e w1 ⟨rfl, rfl⟩)
  go_wp2_with fail
  (go_at_call 41; refine (bytes_rp (HQ.out.below Z0.out.b)).mono ?_; rintro e w1 ⟨rfl, rfl⟩)
  have x0 := (blk_cell Z0.out.h5 0).trans rfl
  have x1 := (blk_cell Z0.out.h5 1).trans rfl
  have x3 := (blk_cell Z0.out.h5 3).trans rfl
  have x4 := (blk_cell Z0.out.h5 4).trans rfl
  obtain ⟨a1, ha1⟩ : ∃ z, z = clampI (cnt x.f2) a := ⟨_, rfl⟩
  have HA := Lib.hid ha1
  have HC := Lib.hid (clamp_in (a := a) HO.out.cnt.1.1)
  rw [← ha1] at HC
  clear ha1
  go_upto_region 4 with (go_at_call 42; refine (clampG_calls x p A c B d a _ Z0.out.sp.rp HO.out.z.s2).mono ?_; rw [← HA.out]; rintro e w1 ⟨rfl, hb1⟩; have Z1 := Lib.hid (Z0.out.next hb1); clear hb1)
  clear x0 x1 x2 x3 x4
  obtain ⟨k, hk⟩ : ∃ k, k = cnt t := ⟨_, rfl⟩
  have HK := Lib.hid hk
  obtain ⟨pl, hpl⟩ : ∃ l, l = putL a1 k m x.f3 := ⟨_, rfl⟩
  obtain ⟨nz, hnz⟩ : ∃ l, l = normY (x.f4.map (Mk.mvY (Mk.toP a1 k))) := ⟨_, rfl⟩
  have HPL := Lib.hid hpl
  have HNZ := Lib.hid hnz
  have x3 := (blk_cell Z1.out.h5 3).trans rfl
  have x4 := (blk_cell Z1.out.h5 4).trans rfl
  clear hk hpl hnz Z0
  refine wp_region_noPanic ?_
  refine wp_region_to (S := fun w' : World => w'.cell? ⟨w.heap.size, 3, none⟩ = some (.slice A x.f3.length c) ∧ w'.cell? ⟨w.heap.size, 4, none⟩ = some (.slice B x.f4.length d)) 8 ?hm_g ?_
  case hm_g => kernel_rfl
  have hHeld_g : (fun w' : World => w'.cell? ⟨w.heap.size, 3, none⟩ = some (.slice A x.f3.length c) ∧ w'.cell? ⟨w.heap.size, 4, none⟩ = some (.slice B x.f4.length d)) _ := ⟨pw_cell_below (w := w1) (by with_reducible repeat (first | exact Below.refl _ _ | apply pw_below_drewN | apply Below.drew)) x3, pw_cell_below (w := w1) (by with_reducible repeat (first | exact Below.refl _ _ | apply pw_below_drewN | apply Below.drew)) x4⟩
  refine HeldTo.take (i := 0) (oi := ?og0) (v := ?vg0) ?hi_g0 ?k1_g0 ?kz_g0 (fun _ _ _ h => h) ?k2_g0 ?k3_g0 (Or.inl ⟨?g_g0, ?y_g0⟩) hHeld_g ?r_g0
  case hi_g0 => (simp only [List.getElem?_toArray, List.getElem?_cons_succ, List.getElem?_cons_zero]; rfl)
  case k1_g0 => kernel_rfl
  case kz_g0 => kernel_rfl
  case k2_g0 => kernel_rfl
  case k3_g0 => kernel_rfl
  case g_g0 => rfl
  case y_g0 => (intro w hSw; (try dsimp only at hSw); first | (go_simp; done) | (go_simp; with_reducible rfl))
  (try simp only [Act.put, List.setIfInBounds_toArray, List.set_cons_zero, List.set_cons_succ])
  refine HeldTo.take (i := 1) (oi := ?og1) (v := ?vg1) ?hi_g1 ?k1_g1 ?kz_g1 (fun _ _ _ h => h) ?k2_g1 ?k3_g1 (Or.inl ⟨?g_g1, ?y_g1⟩) hHeld_g ?r_g1
  case hi_g1 => (simp only [List.getElem?_toArray, List.getElem?_cons_succ, List.getElem?_cons_zero]; rfl)
  case k1_g1 => kernel_rfl
  case kz_g1 => kernel_rfl
  case k2_g1 => kernel_rfl
  case k3_g1 => kernel_rfl
  case g_g1 => rfl
  case y_g1 => (intro w hSw; (try dsimp only at hSw); first | (go_simp; done) | (go_simp; with_reducible rfl))
  (try simp only [Act.put, List.setIfInBounds_toArray, List.set_cons_zero, List.set_cons_succ])
  refine HeldTo.take (i := 2) (oi := ?og2) (v := ?vg2) ?hi_g2 ?k1_g2 ?kz_g2 (fun _ _ _ h => h) ?k2_g2 ?k3_g2 (Or.inl ⟨?g_g2, ?y_g2⟩) hHeld_g ?r_g2
  case hi_g2 => (simp only [List.getElem?_toArray, List.getElem?_cons_succ, List.getElem?_cons_zero]; rfl)
  case k1_g2 => kernel_rfl
  case kz_g2 => kernel_rfl
  case k2_g2 => kernel_rfl
  case k3_g2 => kernel_rfl
  case g_g2 => rfl
  case y_g2 => (intro w hSw; (try dsimp only at hSw); first | (go_simp; done) | (go_simp; with_reducible rfl))
  (try simp only [Act.put, List.setIfInBounds_toArray, List.set_cons_zero, List.set_cons_succ])
  refine HeldTo.take (i := 3) (oi := ?og3) (v := ?vg3) ?hi_g3 ?k1_g3 ?kz_g3 (fun _ _ _ h => h) ?k2_g3 ?k3_g3 (Or.inl ⟨?g_g3, ?y_g3⟩) hHeld_g ?r_g3
  case hi_g3 => (simp only [List.getElem?_toArray, List.getElem?_cons_succ, List.getElem?_cons_zero]; rfl)
  case k1_g3 => kernel_rfl
  case kz_g3 => kernel_rfl
  case k2_g3 => kernel_rfl
  case k3_g3 => kernel_rfl
  case g_g3 => rfl
  case y_g3 => (intro w hSw; (try dsimp only at hSw); first | (go_simp; done) | (go_simp; with_reducible rfl))
  (try simp only [Act.put, List.setIfInBounds_toArray, List.set_cons_zero, List.set_cons_succ])
  refine HeldTo.take (i := 5) (oi := ?og5) (v := ?vg5) ?hi_g5 ?k1_g5 ?kz_g5 (fun _ _ _ h => h) ?k2_g5 ?k3_g5 (Or.inl ⟨?g_g5, ?y_g5⟩) hHeld_g ?r_g5
  case hi_g5 => (simp only [List.getElem?_toArray, List.getElem?_cons_succ, List.getElem?_cons_zero]; rfl)
  case k1_g5 => kernel_rfl
  case kz_g5 => kernel_rfl
  case k2_g5 => kernel_rfl
  case k3_g5 => kernel_rfl
  case g_g5 => rfl
  case y_g5 => (intro w hSw; (try dsimp only at hSw); first | (go_simp; done) | (go_simp; with_reducible rfl))
  (try simp only [Act.put, List.setIfInBounds_toArray, List.set_cons_zero, List.set_cons_succ])
  refine HeldTo.one (i := 4) (o := ?og4) ?k1_g4 ?hi_g4 (fun K hK => ?s_g4)
  case k1_g4 => kernel_rfl
  case hi_g4 => (simp only [List.getElem?_toArray, List.getElem?_cons_succ, List.getElem?_cons_zero]; rfl)
  go_simp
  (go_at_call 36; refine (len_rpb (p := q) (s := t) (HQ.out.below (below_step Z1.out.b (show Below w1.heap.size w1 _ from (by with_reducible repeat (first | exact Below.refl _ _ | apply pw_below_drewN | apply Below.drew))))) (by have := HO.out.b2; omega)).mono ?_; rw [← HK.out]; rintro e w3 ⟨rfl, hb3⟩)
  have B3 := Lib.hid (below_step (show Below w1.heap.size w1 _ from (by with_reducible repeat (first | exact Below.refl _ _ | apply pw_below_drewN | apply Below.drew))) hb3)
  clear hb3
  (try go_wp2_with fail)
  refine hK.out _ _ (Or.inr ⟨pw_cell_below (w := w1) B3.out x3, pw_cell_below (w := w1) B3.out x4⟩) ?_
  clear hK K
  (try simp only [Act.put, List.setIfInBounds_toArray, List.set_cons_zero, List.set_cons_succ])
  refine HeldTo.one (i := 6) (o := ?og6) ?k1_g6 ?hi_g6 (fun K hK => ?s_g6)
  case k1_g6 => kernel_rfl
  case hi_g6 => (simp only [List.getElem?_toArray, List.getElem?_cons_succ, List.getElem?_cons_zero]; rfl)
  go_simp
  (go_at_call 43; refine (Mk.put_calls A c x.f3 B d x.f4 a1 k m _ (Kd.C_below Z1.out.sp.r3 B3.out) Z1.out.sp.c3 (Kd.C_below Z1.out.sp.r4 B3.out) Z1.out.sp.c4 HO.out.z.s3 HO.out.z.s4 (by have := HC.out; have := HO.out.cnt; omega) (by have := HO.out.cnt; rw [HK.out]; omega) (fun s hs => by have := HO.out.each s hs; have := HO.out.cnt; omega)).mono ?_; rw [← HPL.out, ← HNZ.out]; rintro e w4 ⟨A4, c4, B4, d4, e4, m4, n4, hb4⟩)
  subst e4
  have M4 := Lib.hid m4
  have N4 := Lib.hid n4
  have HB4 := Lib.hid hb4
  clear m4 n4 hb4
  (try go_wp2_with fail)
  refine hK.out _ _ (Or.inr ⟨pw_cell_below (w := w1) (below_step B3.out HB4.out) x3, pw_cell_below (w := w1) (below_step B3.out HB4.out) x4⟩) ?_
  clear hK K
  (try simp only [Act.put, List.setIfInBounds_toArray, List.set_cons_zero, List.set_cons_succ])
  refine HeldTo.take (i := 7) (oi := ?og7) (v := ?vg7) ?hi_g7 ?k1_g7 ?kz_g7 (fun _ _ _ h => h) ?k2_g7 ?k3_g7 (Or.inl ⟨?g_g7, ?y_g7⟩) ⟨pw_cell_below (w := w1) (below_step B3.out HB4.out) x3, pw_cell_below (w := w1) (below_step B3.out HB4.out) x4⟩ ?r_g7
  case hi_g7 => (simp only [List.getElem?_toArray, List.getElem?_cons_succ, List.getElem?_cons_zero]; rfl)
  case k1_g7 => kernel_rfl
  case kz_g7 => kernel_rfl
  case k2_g7 => kernel_rfl
  case k3_g7 => kernel_rfl
  case g_g7 => rfl
  case y_g7 => (intro w hSw; (try dsimp only at hSw); first | (go_simp; done) | (go_simp; with_reducible rfl))
  (try simp only [Act.put, List.setIfInBounds_toArray, List.set_cons_zero, List.set_cons_succ])
  refine HeldTo.one (i := 8) (o := ?og8) ?k1_g8 ?hi_g8 (fun K hK => ?s_g8)
  case k1_g8 => kernel_rfl
  case hi_g8 => (simp only [List.getElem?_toArray, List.getElem?_cons_succ, List.getElem?_cons_zero]; rfl)
  have t3 := (blk_cell (blk_below (blk_below Z1.out.h5 B3.out) HB4.out) 3).trans rfl
  have t4 := (blk_cell (blk_below (blk_below Z1.out.h5 B3.out) HB4.out) 4).trans rfl
  have z3 := blk_frozen (blk_below (blk_below Z1.out.h5 B3.out) HB4.out) 3
  have z4 := blk_frozen (blk_below (blk_below Z1.out.h5 B3.out) HB4.out) 4
  go_simp
  refine hK.out _ _ (Or.inl rfl) ?_
  clear hK K
  (try simp only [Act.put, List.setIfInBounds_toArray, List.set_cons_zero, List.set_cons_succ])
  refine HeldTo.done (by kernel_rfl) ?_ _
  refine NoPanic.normal ?_
  refine gen2 (φ := fun W => Exit.then _ _ Exit.normal _ W) (P := fun W => IZ w w.heap.size (w.heap.size + 1) ⟨x.f0, x.f1, x.f2, pl, nz⟩ p A4 c4 B4 d4 W) (Z1.out.marks (below_step B3.out HB4.out) M4.out N4.out) ?_
  intro V2 hV2
  have Z2 := Lib.hid hV2
  have x2 := (blk_cell hV2.h5 2).trans rfl
  clear hV2 t3 t4 z3 z4 x3 x4 Z1 M4 N4 B3 HB4 hHeld_g
  go_upto_region 6 with (go_at_call 44; refine (put_rp a1 (show Rp V2 p x.f2 from Z2.out.sp.rp) (HQ.out.below Z2.out.b) (by have := HO.out.b1; have := HO.out.b2; omega)).mono ?_; rintro e w5 ⟨r, rfl, hr5, hb5⟩; have R5 := Lib.hid hr5; have HB5 := Lib.hid hb5; have u2 := (blk_cell (blk_below Z2.out.h5 hb5) 2).trans rfl; have z2 := blk_frozen (blk_below Z2.out.h5 hb5) 2; clear hr5 hb5)
  refine gen2 (φ := fun W => Code.wp _ _ _ _ W) (P := fun W => IZ w w.heap.size (w.heap.size + 1) ⟨x.f0, x.f1, putT x.f2 a1 t, pl, nz⟩ r A4 c4 B4 d4 W) (Z2.out.text HB5.out R5.out) ?_
  intro V3 hV3
  have Z3 := Lib.hid hV3
  have x0 := (blk_cell hV3.h5 0).trans rfl
  have x1 := (blk_cell hV3.h5 1).trans rfl
  have x2' := (blk_cell hV3.h5 2).trans rfl
  have x3 := (blk_cell hV3.h5 3).trans rfl
  have x4 := (blk_cell hV3.h5 4).trans rfl
  clear hV3 x2 u2 z2 Z2 HB5 R5
  have HI := Lib.hid (show insG x a t m = ⟨x.f0, x.f1, putT x.f2 a1 t, pl, nz⟩ by unfold insG; rw [← HA.out, ← HK.out, ← HPL.out, ← HNZ.out])
  have r0 := (blk_cell Z3.out.h10 0).trans rfl
  have z0 := blk_frozen Z3.out.h10 0
  have r1 := (blk_cell Z3.out.h10 1).trans rfl
  have z1 := blk_frozen Z3.out.h10 1
  have r2 := (blk_cell Z3.out.h10 2).trans rfl
  have z2 := blk_frozen Z3.out.h10 2
  have r3 := (blk_cell Z3.out.h10 3).trans rfl
  have z3 := blk_frozen Z3.out.h10 3
  have r4 := (blk_cell Z3.out.h10 4).trans rfl
  have z4 := blk_frozen Z3.out.h10 4
  go_wp2
  refine bodyPost_ret (results_ct rfl _ _ (w.heap.size + 1) 31 (sgC ⟨x.f0, x.f1, putT x.f2 a1 t, pl, nz⟩ r A4 c4 B4 d4) (0, 0) _ rfl (by simpa using Z3.out.out5.1.2) Tryd.underlying31 rfl (by kernel_rfl)) rfl ?_
  rw [HI.out]
  exact ⟨r, A4, c4, B4, d4, rfl, Z3.out.out5.1.1, Z3.out.out5.2⟩
end Go.Proofs.YtjphmebhofkhcaaDoor.Seg
/- Segments: the walks of the laws' own has, text and loaded. Conditions: texts of at most 2^30 bytes. -/
namespace Go.Proofs.YtjphmebhofkhcaaDoor.Seg
open Go.RowKit Go.Proofs.YtjphmebhofkhcaaDoorPl Go.Proofs.YtjphmebhofkhcaaDoorW.PrintWords Go.Proofs.YtjphmebhofkhcaaDoorW.PrintLast Go.Proofs.YtjphmebhofkhcaaDoorW.PrintMore Go.Proofs.YtjphmebhofkhcaaDoor.Rope Go.Proofs.YtjphmebhofkhcaaDoor.PSegAll Go.Proofs.YtjphmebhofkhcaaDoor.Pure
set_option linter.unusedVariables false
set_option linter.unusedSimpArgs false
/-- What has reads. -/
abbrev HQ (w : World) (x : G) (p A : Option Addr) (c : Nat) (B : Option Addr) (d : Nat) (A2 : Option Addr) (c2 : Nat) (B2 : Option Addr) (d2 : Nat) (V w' : World) : Prop :=
 Q5 V w.heap.size x p A c B d w' ∧ w'.cell? ⟨w.heap.size + 1, 0, none⟩ = some (.int .i64 x.f0) ∧ w'.cell? ⟨w.heap.size + 1, 1, none⟩ = some (.int .i64 x.f1) ∧ w'.cell? ⟨w.heap.size + 1, 2, none⟩ = some (.string x.f2) ∧ w'.cell? ⟨w.heap.size + 1, 3, none⟩ = some (.slice A2 x.f3.length c2) ∧ w'.cell? ⟨w.heap.size + 1, 4, none⟩ = some (.slice B2 x.f4.length d2)
theorem HQ.next {w : World} {x : G} {p A : Option Addr} {c : Nat} {B : Option Addr} {d : Nat} {A2 : Option Addr} {c2 : Nat} {B2 : Option Addr} {d2 : Nat} {V W W' : World} (h : HQ w x p A c B d A2 c2 B2 d2 V W) (hb : Below W.heap.size W W') : HQ w x p A c B d A2 c2 B2 d2 V W' :=
 ⟨Q5.next h.1 hb, pw_cell_below hb h.2.1, pw_cell_below hb h.2.2.1, pw_cell_below hb h.2.2.2.1, pw_cell_below hb h.2.2.2.2.1, pw_cell_below hb h.2.2.2.2.2⟩
theorem HQ.b {w : World} {x : G} {p A : Option Addr} {c : Nat} {B : Option Addr} {d : Nat} {A2 : Option Addr} {c2 : Nat} {B2 : Option Addr} {d2 : Nat} {V W : World} (h : HQ w x p A c B d A2 c2 B2 d2 V W) : Below V.heap.size V W := Q5.b h.1
/-- A segment is laid in a block of its own. -/
abbrev lay5 (W : World) (g : Nat) (y : G) (p A : Option Addr) (c : Nat) (B : Option Addr) (d : Nat) : World := ((((W.setCell ⟨g, 0, none⟩ (.int .i64 y.f0)).setCell ⟨g, 1, none⟩ (.int .i64 y.f1)).setCell ⟨g, 2, none⟩ (.pointer p)).setCell ⟨g, 3, none⟩ (.slice A y.f3.length c)).setCell ⟨g, 4, none⟩ (.slice B y.f4.length d)
theorem lay5_sp {W : World} {g : Nat} {y : G} {p A : Option Addr} {c : Nat} {B : Option Addr} {d : Nat} {z : G} {p' A' : Option Addr} {c' : Nat} {B' : Option Addr} {d' : Nat} (h : SP W z p' A' c' B' d') (hg : W.heap[g]? = some (.cells zC 31 (0, 0))) : SP (lay5 W g y p A c B d) z p' A' c' B' d' ∧ (lay5 W g y p A c B d).heap[g]? = some (.cells (sgC y p A c B d) 31 (0, 0)) := by
 have s := sp_set (sp_set (sp_set (sp_set (sp_set ⟨h, hg⟩ 0 (.int .i64 y.f0)) 1 (.int .i64 y.f1)) 2 (.pointer p)) 3 (.slice A y.f3.length c)) 4 (.slice B y.f4.length d)
 exact ⟨s.1, by simpa using s.2⟩
theorem lay5_below {w W : World} {g : Nat} {y : G} {p A : Option Addr} {c : Nat} {B : Option Addr} {d : Nat} (h : Below w.heap.size w W) (hg : w.heap.size ≤ g) : Below w.heap.size w (lay5 W g y p A c B d) := below_set (below_set (below_set (below_set (below_set h hg) hg) hg) hg) hg
theorem lay5_far {W : World} {g k : Nat} {y : G} {p A : Option Addr} {c : Nat} {B : Option Addr} {d : Nat} (h : g ≠ k) : (lay5 W g y p A c B d).heap[k]? = W.heap[k]? := by
 have e := fun (V : World) (j : Nat) (u : Value) => Below.heap_setCell V ⟨g, j, none⟩ u k (fun e => h e.symm)
 exact (e _ _ _).trans ((e _ _ _).trans ((e _ _ _).trans ((e _ _ _).trans (e _ _ _))))
/-- The law's own segment of a text. -/
def tG (s : ByteArray) : G := ⟨1, 2, s, [], []⟩
theorem ins_text {s : ByteArray} (hv : Lib.validD s.data.toList = true) : insG (nG 1 2) 0 s 0 = tG s := by
 have hv0 : Lib.validD (ByteArray.mk #[]).data.toList = true := by decide +kernel
 have h0 := (cnt_in hv0 (by decide)).1
 have e1 : clampI (cnt (nG 1 2).f2) 0 = 0 := by
  unfold clampI
  rw [if_neg (by decide : ¬ (0 : Int) < 0)]
  rw [if_neg]
  show ¬ cnt (ByteArray.mk #[]) < 0
  omega
 have el : lets (ByteArray.mk #[]) = [] := lets_eq (fun c hc => by cases hc) rfl
 unfold insG tG
 rw [e1]
 show (⟨1, 2, putT (ByteArray.mk #[]) 0 s, putL 0 (cnt s) 0 [], normY (([] : List S70).map (Mk.mvY (Mk.toP 0 (cnt s))))⟩ : G) = ⟨1, 2, s, [], []⟩
 have e2 : putT (ByteArray.mk #[]) 0 s = s := by
  unfold putT
  rw [el]
  simp only [List.take_nil, List.drop_nil, List.nil_append, List.append_nil]
  exact ofL_lets hv
 have e3 : putL 0 (cnt s) 0 [] = [] := by
  unfold putL putGo freshS
  rw [if_neg (by decide), if_pos (by decide)]
  exact addL_none _ _ (Int.le_refl _)
 rw [e2, e3]
 rfl
theorem ins_ok (s : ByteArray) (hv : Lib.validD s.data.toList = true) (hs : s.size ≤ 1073741824) : InsOk (nG 1 2) s := by
 refine ⟨⟨by decide, by decide, by decide⟩, ?_, by decide, hs, hv⟩
 unfold okB
 have hv0 : Lib.validD (nG 1 2).f2.data.toList = true := by decide +kernel
 rw [hv0]
 rfl
set_option maxRecDepth 1000000 in
set_option maxHeartbeats 4000000 in
theorem text5_calls (s : ByteArray) (w : World) (hT : Tabs w) (hv : Lib.validD s.data.toList = true) (hs : s.size ≤ 1000) :
  Calls Tryd.prog 9 #[.string s] w fun e w' => ∃ p A c B d, e = .returned (.agg (sgC (tG s) p A c B d)) ∧ SP w' (tG s) p A c B d ∧ Below w.heap.size w w' := by
 have HT := Lib.hid hT
 have HV := Lib.hid hv
 have HO := Lib.hid (ins_ok s hv (by omega))
 have HI := Lib.hid (ins_text hv)
 clear hT hv
 go_enter Tryd.func9, Tryd.ntmps9
 go_upto_region 1 with fail
 refine gen2 (φ := fun W => Code.wp _ _ _ _ W) (P := fun W => Below w.heap.size w W ∧ W.heap[w.heap.size]? = some (.cells zC 31 (0, 0))) ⟨below_alloc (Below.refl _ _) _, blk_new w _⟩ ?_
 rintro V0 ⟨hb0, h20⟩
 have B0 := Lib.hid hb0
 have X2 := Lib.hid h20
 clear hb0 h20
 go_upto_region 2 with (first
  | (go_at_call 31; refine (segNew_calls 1 2 _).mono ?_; rintro e w1 ⟨rfl, hb1⟩; have B1 := Lib.hid hb1; clear hb1)
  | (go_at_call 14; refine (of5_calls s _ (by omega) (HT.out.below (below_step B0.out B1.out)) HV.out).mono ?_; rintro e w2 ⟨q, rfl, hq, hb2⟩; have HQ := Lib.hid hq; have B2 := Lib.hid (below_step B1.out hb2); clear hq hb2)
  | (go_at_call 13; refine (segIns_calls (nG 1 2) none none 0 none 0 q s 0 0 1000 _ (nG_sp 1 2 _) HQ.out HO.out).mono ?_; rw [HI.out]; rintro e w3 h3; rw [if_neg (by show ¬ ((1000 : Int) < ((0 : Nat) : Int) + (s.size : Int)); omega)] at h3; obtain ⟨p, A, c, B, d, e3, s3, hb3⟩ := h3; subst e3; have S3 := Lib.hid s3; have B3 := Lib.hid (below_step B2.out hb3); clear s3 hb3)
  | ((with_reducible refine gate_dst (N := 3) rfl ?_); refine box_event ?hg (N := 3) ?hd (cs := zC) (t := 31) ?hr ?_; (case hd => rfl); (case hg => rfl); (case hr => first | (go_simp; done) | (go_simp; rfl)); intro gS hgS wS hxS hbS; have GS := Lib.hid (show w.heap.size ≤ gS by rw [hgS]; exact (below_step B0.out B3.out).size); have GN := Lib.hid (show gS ≠ w.heap.size by rw [hgS]; exact Nat.ne_of_gt (blk_lt (blk_below X2.out B3.out))); have X2S := Lib.hid (blk_below (blk_below X2.out B3.out) hbS); have XS := Lib.hid hxS; have BS := Lib.hid (below_step (below_step B0.out B3.out) hbS); have SS := Lib.hid (S3.out.below hbS); have q0 := (blk_cell hxS 0).trans rfl; have q1 := (blk_cell hxS 1).trans rfl; have q2 := (blk_cell hxS 2).trans rfl; have q3 := (blk_cell hxS 3).trans rfl; have q4 := (blk_cell hxS 4).trans rfl; have z0 := blk_frozen hxS 0; have z1 := blk_frozen hxS 1; have z2 := blk_frozen hxS 2; have z3 := blk_frozen hxS 3; have z4 := blk_frozen hxS 4; clear hgS hxS hbS))
 refine gen2 (φ := fun W => Code.wp _ _ _ _ W) (P := fun W => Below w.heap.size w W ∧ (SP W (tG s) p A c B d ∧ W.heap[gS]? = some (.cells (sgC (tG s) p A c B d) 31 (0, 0))) ∧ W.heap[w.heap.size]? = some (.cells zC 31 (0, 0))) ⟨lay5_below BS.out GS.out, lay5_sp SS.out XS.out, (lay5_far GN.out).trans X2S.out⟩ ?_
 rintro V ⟨hb, ⟨hs, hg⟩, h2⟩
 have BV := Lib.hid hb
 have SV := Lib.hid hs
 have X2V := Lib.hid h2
 have s0 := (blk_cell hg 0).trans rfl
 have s1 := (blk_cell hg 1).trans rfl
 have s2 := (blk_cell hg 2).trans rfl
 have s3 := (blk_cell hg 3).trans rfl
 have s4 := (blk_cell hg 4).trans rfl
 clear hb hs hg h2 q0 q1 q2 q3 q4 z0 z1 z2 z3 z4
 have r0 := (blk_cell X2V.out 0).trans rfl
 have z0 := blk_frozen X2V.out 0
 have r1 := (blk_cell X2V.out 1).trans rfl
 have z1 := blk_frozen X2V.out 1
 have r2 := (blk_cell X2V.out 2).trans rfl
 have z2 := blk_frozen X2V.out 2
 have r3 := (blk_cell X2V.out 3).trans rfl
 have z3 := blk_frozen X2V.out 3
 have r4 := (blk_cell X2V.out 4).trans rfl
 have z4 := blk_frozen X2V.out 4
 go_wp2
 have L := lay5_sp (y := tG s) (p := p) (A := A) (c := c) (B := B) (d := d) SV.out X2V.out
 refine bodyPost_ret (results_cell_row rfl _ _ w.heap.size 31 (sgC (tG s) p A c B d) (0, 0) _ rfl (by simpa using L.2) Tryd.underlying31 rfl (by kernel_rfl)) rfl ?_
 exact ⟨p, A, c, B, d, rfl, L.1, lay5_below BV.out (Nat.le_refl _)⟩
end Go.Proofs.YtjphmebhofkhcaaDoor.Seg
/- Segments: the walk of the law SegmentLoads. Conditions: none beside the row's. -/
namespace Go.Proofs.YtjphmebhofkhcaaDoor.Seg
open Go.RowKit Go.Proofs.YtjphmebhofkhcaaDoorPl Go.Proofs.YtjphmebhofkhcaaDoorW.PrintWords Go.Proofs.YtjphmebhofkhcaaDoorW.PrintLast Go.Proofs.YtjphmebhofkhcaaDoorW.PrintMore Go.Proofs.YtjphmebhofkhcaaDoor.Rope Go.Proofs.YtjphmebhofkhcaaDoor.PSegAll Go.Proofs.YtjphmebhofkhcaaDoor.Pure
set_option linter.unusedVariables false
set_option linter.unusedSimpArgs false
abbrev lay0 (W : World) (g : Nat) : World := ((((W.setCell ⟨g, 0, none⟩ (.int .i64 0)).setCell ⟨g, 1, none⟩ (.int .i64 0)).setCell ⟨g, 2, none⟩ (.pointer none)).setCell ⟨g, 3, none⟩ (.slice none 0 0)).setCell ⟨g, 4, none⟩ (.slice none 0 0)
theorem lay0_sp {W : World} {g : Nat} (hg : W.heap[g]? = some (.cells zC 31 (0, 0))) : (lay0 W g).heap[g]? = some (.cells zC 31 (0, 0)) := by
 have s := blk_set (blk_set (blk_set (blk_set (blk_set hg 0 (.int .i64 0)) 1 (.int .i64 0)) 2 (.pointer none)) 3 (.slice none 0 0)) 4 (.slice none 0 0)
 simpa using s
theorem lay0_below {w W : World} {g : Nat} (h : Below w.heap.size w W) (hg : w.heap.size ≤ g) : Below w.heap.size w (lay0 W g) := below_set (below_set (below_set (below_set (below_set h hg) hg) hg) hg) hg
def smallB (x : G) : Bool := decide (x.f2.size ≤ 1500) && decide (x.f3.length ≤ 300) && decide (x.f4.length ≤ 300)
theorem small_f (x : G) : chancellaw05_small.f x.f0 x.f1 x.f2 x.f3 x.f4 = some (smallB x) := by
 unfold chancellaw05_small.f smallB
 by_cases h1 : x.f2.size ≤ 1500
 ·rw [if_pos (by omega), decide_eq_true h1]
  by_cases h2 : x.f3.length ≤ 300
  ·rw [if_pos (by omega), decide_eq_true h2, Bool.true_and, Bool.true_and]
   congr 1
   exact decide_eq_decide.2 (by omega)
  ·rw [if_neg (by omega), decide_eq_false h2]
   rfl
 ·rw [if_neg (by omega), decide_eq_false h1]
  rfl
theorem small5_calls (x : G) (A : Option Addr) (c : Nat) (B : Option Addr) (d : Nat) (w : World) (h : GR w x A c B d) :
  Calls Tryd.prog 10 #[.agg (gC x A c B d)] w fun e w' => e = .returned (.bool (smallB x)) ∧ Below w.heap.size w w' := chancellaw05_small.calls x.f0 x.f1 x.f2 A c x.f3 B d x.f4 (smallB x) w h.r3 h.c3 h.r4 h.c4 (small_f x)
theorem small_iff {x : G} (h : smallB x = true) : x.f2.size ≤ 1500 ∧ x.f3.length ≤ 300 ∧ x.f4.length ≤ 300 := by
 unfold smallB at h
 rw [Bool.and_eq_true, Bool.and_eq_true, decide_eq_true_eq, decide_eq_true_eq, decide_eq_true_eq] at h
 exact ⟨h.1.1, h.1.2, h.2⟩
theorem small_sz {x : G} (h : smallB x = true) : Sz x := by
 obtain ⟨h1, h2, h3⟩ := small_iff h
 exact ⟨by omega, by omega, by omega⟩
end Go.Proofs.YtjphmebhofkhcaaDoor.Seg
/- Segments: the walks of Has, and of the reference's Insert. Conditions: texts of at most 2^30 bytes. -/
namespace Go.Proofs.YtjphmebhofkhcaaDoor.Seg
open Go.RowKit Go.Proofs.YtjphmebhofkhcaaDoorPl Go.Proofs.YtjphmebhofkhcaaDoorW.PrintWords Go.Proofs.YtjphmebhofkhcaaDoorW.PrintLast Go.Proofs.YtjphmebhofkhcaaDoorW.PrintMore Go.Proofs.YtjphmebhofkhcaaDoor.Rope Go.Proofs.YtjphmebhofkhcaaDoor.PSegAll Go.Proofs.YtjphmebhofkhcaaDoor.Pure
set_option linter.unusedVariables false
set_option linter.unusedSimpArgs false
attribute [local go_sem] max2_int min2_int max_two min_two
end Go.Proofs.YtjphmebhofkhcaaDoor.Seg
/- Segments: the walk of marks.Right at right marks. Conditions: at most 2^40 spans and sites. -/
namespace Go.Proofs.YtjphmebhofkhcaaDoor.Seg
open Go.RowKit Go.Proofs.YtjphmebhofkhcaaDoorPl Go.Proofs.YtjphmebhofkhcaaDoorW.PrintWords Go.Proofs.YtjphmebhofkhcaaDoorW.PrintLast Go.Proofs.YtjphmebhofkhcaaDoorW.PrintMore Go.Proofs.YtjphmebhofkhcaaDoor.Rope Go.Proofs.YtjphmebhofkhcaaDoor.PSegAll Go.Proofs.YtjphmebhofkhcaaDoor.Pure
set_option linter.unusedVariables false
set_option linter.unusedSimpArgs false
theorem ok_next {n : Int} : ∀ {xs : List S67} {q : Option S67} (i : Nat) {p x : S67}, spansOk n q xs = true → xs[i]? = some p → xs[i + 1]? = some x → spanOk n (some p) x = true
 | [], _, _, _, _, _, h1, _ => by simp at h1
 | s :: r, q, 0, p, x, h, h1, h2 => by
  rw [spansOk, Bool.and_eq_true] at h
  simp only [List.getElem?_cons_zero, Option.some.injEq] at h1
  subst h1
  rw [List.getElem?_cons_succ] at h2
  cases r with
  | nil => simp at h2
  | cons t u =>
   simp only [List.getElem?_cons_zero, Option.some.injEq] at h2
   subst h2
   have h3 := h.2
   rw [spansOk, Bool.and_eq_true] at h3
   exact h3.1
 | s :: r, q, i + 1, p, x, h, h1, h2 => by
  rw [spansOk, Bool.and_eq_true] at h
  rw [List.getElem?_cons_succ] at h1 h2
  exact ok_next i h.2 h1 h2
theorem site_next {ys : List S70} (h : ys.Pairwise siteLt) {i : Nat} {p x : S70} (h1 : ys[i]? = some p) (h2 : ys[i + 1]? = some x) : p.f1 < x.f1 ∨ p.f1 = x.f1 ∧ p.f0 < x.f0 := by
 obtain ⟨g1, e1⟩ := List.getElem?_eq_some_iff.1 h1
 obtain ⟨g2, e2⟩ := List.getElem?_eq_some_iff.1 h2
 have := List.pairwise_iff_getElem.1 h i (i + 1) g1 g2 (by omega)
 rw [e1, e2] at this
 exact this
theorem comp_calls (p x : S70) (w : World) (hlt : p.f1 < x.f1 ∨ p.f1 = x.f1 ∧ p.f0 < x.f0) : Calls Tryd.prog 64 #[.agg #[.int .i64 p.f0, .int .i64 p.f1], .agg #[.int .i64 x.f0, .int .i64 x.f1]] w fun e w' => (∃ z : Int, e = .returned (.int .i64 z) ∧ z < 0) ∧ Below w.heap.size w w' := by
 obtain ⟨k, hk⟩ := Go.Proofs.YtjphmebhofkhcaaDoorW.PrintWords.Ev.rounds (mr_compare p.f0 p.f1 x.f0 x.f1)
 refine (marks_compare.calls k p.f0 p.f1 x.f0 x.f1 _ w hk).mono ?_
 rintro e w' ⟨rfl, h⟩
 exact ⟨⟨_, rfl, Int.not_le.1 (fun g => (mr_compare_sign p.f0 p.f1 x.f0 x.f1).1 g hlt)⟩, h⟩
abbrev RZ (V : World) (gB : Nat) (gM : Nat) (sv : Value) (x : S70) (W : World) : Prop := W.cell? ⟨gB, 0, none⟩ = some (.int .i64 x.f0) ∧ W.cell? ⟨gB, 1, none⟩ = some (.int .i64 x.f1) ∧ W.cell? ⟨gM, 1, none⟩ = some sv ∧ Below V.heap.size V W
theorem RZ.next {V W W' : World} {gB gM : Nat} {sv : Value} {x : S70} (h : RZ V gB gM sv x W) (hb : Below W.heap.size W W') : RZ V gB gM sv x W' := ⟨pw_cell_below hb h.1, pw_cell_below hb h.2.1, pw_cell_below hb h.2.2.1, below_step h.2.2.2 hb⟩
abbrev RY (V : World) (gB : Nat) (gM : Nat) (sv : Value) (x : S70) (q : Addr) (y : S70) (W : World) : Prop := W.cell? ⟨gB, 0, none⟩ = some (.int .i64 x.f0) ∧ W.cell? ⟨gB, 1, none⟩ = some (.int .i64 x.f1) ∧ W.cell? ⟨gM, 1, none⟩ = some sv ∧ W.cell? q = some (.int .i64 y.f0) ∧ W.cell? ⟨q.block, q.off + 1, none⟩ = some (.int .i64 y.f1) ∧ Below V.heap.size V W
theorem RY.next {V W W' : World} {gB gM : Nat} {sv : Value} {x : S70} {q : Addr} {y : S70} (h : RY V gB gM sv x q y W) (hb : Below W.heap.size W W') : RY V gB gM sv x q y W' := ⟨pw_cell_below hb h.1, pw_cell_below hb h.2.1, pw_cell_below hb h.2.2.1, pw_cell_below hb h.2.2.2.1, pw_cell_below hb h.2.2.2.2.1, below_step h.2.2.2.2.2 hb⟩
set_option maxRecDepth 1000000 in
set_option maxHeartbeats 8000000 in
theorem right_true (A : Option Addr) (c : Nat) (xs : List S67) (B : Option Addr) (d : Nat) (ys : List S70) (n : Int) (w : World) (hr : Kd.C kS w A xs.length xs) (hs : Kd.C kY w B ys.length ys) (hl : xs.length ≤ 1099511627776) (hly : ys.length ≤ 1099511627776) (hok : rightB n xs ys = true) :
  Calls Tryd.prog 35 #[.agg #[.slice A xs.length c, .slice B ys.length d], .int .i64 n] w fun e w' => e = .returned (.bool true) ∧ Below w.heap.size w w' := by
 have HR := Lib.hid hr
 have HS := Lib.hid hs
 have HX := Lib.hid (Mk.right_iff.1 hok).1
 have HY := Lib.hid ((sitesOk_iff n none ys).1 (Mk.right_iff.1 hok).2)
 clear hr hs hok
 go_enter Tryd.func35, Tryd.ntmps35
 go_upto_region 1 with fail
 refine gen2 (φ := fun W => Code.wp _ _ _ _ W) (P := fun W => Below w.heap.size w W ∧ W.heap[w.heap.size]? = some (.cells #[.slice A xs.length c, .slice B ys.length d] 29 (0, 0))) ⟨below_alloc (Below.refl _ _) _, blk_new w _⟩ ?_
 rintro V ⟨hb, h2⟩
 have BV := Lib.hid hb
 have XM := Lib.hid h2
 have m0 := (blk_cell h2 0).trans rfl
 clear hb h2
 go_wp2
 clear m0
 go_loopw [13] (fun s13 wr => ∃ kk : Nat, kk ≤ xs.length ∧ s13 = .int .i64 (kk : Int) ∧ Hid (Below V.heap.size V wr)) (fun s13 _ => xs.length - Mk.cntM s13)
 case atStart => exact ⟨0, Nat.zero_le _, rfl, Lib.hid (Below.refl _ _)⟩
 case round =>
  obtain ⟨kk, hkk, rfl, ZW⟩ := hrel
  by_cases hlt : kk < xs.length
  ·have d1 : decide ((kk : Int) < (xs.length : Int)) = true := by simp; omega
   have b1 : (0 : Int) ≤ (kk : Int) := by omega
   have b2 : (kk : Int) < (xs.length : Int) := by omega
   have w1_ : IntKind.i64.wrap ((kk : Int) + 1) = (kk : Int) + 1 := IntWalk.i64_in _ (by omega)
   obtain ⟨x, hx⟩ : ∃ x, xs[kk]? = some x := ⟨_, List.getElem?_eq_getElem hlt⟩
   have HXX := Lib.hid hx
   obtain ⟨ad, e0, y0, y1, y2⟩ := Mk.at_S (Kd.C_below HR.out (below_step BV.out ZW.out)) hx hlt
   subst e0
   obtain ⟨g1, g2, g3, g4⟩ := ok_each HX.out x (List.mem_of_getElem? hx)
   have c1 : decide (x.f0 ≤ 0) = false := by simp; omega
   have c2 : decide (x.f1 < 0) = false := by simp; omega
   have c3 : decide (x.f2 ≤ x.f1) = false := by simp; omega
   have c4 : decide (n < x.f2) = false := by simp; omega
   have k1 : ¬ x.f0 ≤ 0 := by omega
   have k2 : ¬ x.f1 < 0 := by omega
   have k3 : ¬ x.f2 ≤ x.f1 := by omega
   have k4 : ¬ n < x.f2 := by omega
   clear hx g1 g2 g3 g4
   go_upto_region 4 with (first | ((with_reducible refine gate_dst (N := 6) rfl ?_); refine box_event ?hg (N := 6) ?hd (cs := #[.int .i64 0, .int .i64 0, .int .i64 0]) (t := 67) ?hr ?_; (case hd => rfl); (case hg => rfl); (case hr => first | (go_simp; done) | (go_simp; rfl)); intro gB hgB wB hxB hbB; have GB := Lib.hid (show Mk.TBm 67 wr gB #[.int .i64 0, .int .i64 0, .int .i64 0] wB from ⟨hbB, by rw [hgB]; exact Nat.le_refl _, hxB⟩); have q0 := (blk_cell hxB 0).trans rfl; have q1 := (blk_cell hxB 1).trans rfl; have q2 := (blk_cell hxB 2).trans rfl; have z0 := blk_frozen hxB 0; have z1 := blk_frozen hxB 1; have z2 := blk_frozen hxB 2; clear hgB hxB hbB))
   refine gen2 (φ := fun W => Code.wp _ _ _ _ W) (P := fun W => Mk.TBm 67 wr gB #[.int .i64 x.f0, .int .i64 x.f1, .int .i64 x.f2] W) (((GB.out.set 0 (.int .i64 x.f0)).set 1 (.int .i64 x.f1)).set 2 (.int .i64 x.f2)) ?_
   clear q0 q1 q2 z0 z1 z2 GB y0 y1 y2
   rintro V3 hV3
   have B3 := Lib.hid (below_step ZW.out hV3.b)
   have T3 := Lib.hid hV3.hx
   have t0 := (blk_cell hV3.hx 0).trans rfl
   have t1 := (blk_cell hV3.hx 1).trans rfl
   have t2 := (blk_cell hV3.hx 2).trans rfl
   clear hV3 ZW
   by_cases hk : kk = 0
   ·have dk : decide ((0 : Int) < (kk : Int)) = false := by simp [hk]
    have nk : ¬ (0 : Int) < (kk : Int) := by omega
    go_wp2
    go_roundw
    case rel => exact ⟨kk + 1, by omega, by go_num, B3⟩
    case measure =>
     simp only [Mk.cntM]
     omega
   ·obtain ⟨jj, rfl⟩ : ∃ jj, kk = jj + 1 := ⟨kk - 1, by omega⟩
    have dk : decide ((0 : Int) < ((jj + 1 : Nat) : Int)) = true := by simp
    have wp_ : IntKind.i64.wrap (((jj + 1 : Nat) : Int) - 1) = (jj : Int) := by rw [show ((jj + 1 : Nat) : Int) - 1 = (jj : Int) by omega]; exact IntWalk.i64_in _ (by omega)
    have p1 : (0 : Int) ≤ (jj : Int) := by omega
    have p2 : (jj : Int) < (xs.length : Int) := by omega
    have m0 := (blk_cell (blk_below XM.out B3.out) 0).trans rfl
    obtain ⟨p, hp⟩ : ∃ p, xs[jj]? = some p := ⟨_, List.getElem?_eq_getElem (by omega)⟩
    obtain ⟨ad2, e2, y0, y1, y2⟩ := Mk.at_S (Kd.C_below HR.out (below_step BV.out B3.out)) hp (by omega)
    injection e2 with e2
    subst e2
    have hn := (spanOk_iff n (some p) x).1 (ok_next jj HX.out hp HXX.out)
    have h5 := hn.2.2.2.2 p rfl
    have c5 : decide (x.f1 < p.f2) = false := by simp; omega
    have k5 : ¬ x.f1 < p.f2 := by omega
    clear hp hn dk
    go_upto_region 8 with (first | ((with_reducible refine gate_dst (N := 7) rfl ?_); refine box_event ?hg (N := 7) ?hd (cs := #[.int .i64 0, .int .i64 0, .int .i64 0]) (t := 67) ?hr ?_; (case hd => rfl); (case hg => rfl); (case hr => first | (go_simp; done) | (go_simp; rfl)); intro gP hgP wP hxP hbP; have GP := Lib.hid (show Mk.TBm 67 V3 gP #[.int .i64 0, .int .i64 0, .int .i64 0] wP from ⟨hbP, by rw [hgP]; exact Nat.le_refl _, hxP⟩); have q0 := (blk_cell hxP 0).trans rfl; have q1 := (blk_cell hxP 1).trans rfl; have q2 := (blk_cell hxP 2).trans rfl; have z0 := blk_frozen hxP 0; have z1 := blk_frozen hxP 1; have z2 := blk_frozen hxP 2; clear hgP hxP hbP))
    refine gen2 (φ := fun W => Code.wp _ _ _ _ W) (P := fun W => Mk.TBm 67 V3 gP #[.int .i64 p.f0, .int .i64 p.f1, .int .i64 p.f2] W) (((GP.out.set 0 (.int .i64 p.f0)).set 1 (.int .i64 p.f1)).set 2 (.int .i64 p.f2)) ?_
    clear q0 q1 q2 z0 z1 z2 GP y0 y1 y2 m0 t0 t1 t2
    rintro V4 hV4
    have B4 := Lib.hid (below_step B3.out hV4.b)
    have t0 := (blk_cell (blk_below T3.out hV4.b) 0).trans rfl
    have t1 := (blk_cell (blk_below T3.out hV4.b) 1).trans rfl
    have u0 := (blk_cell hV4.hx 0).trans rfl
    have u2 := (blk_cell hV4.hx 2).trans rfl
    clear hV4
    have c5 : decide (x.f1 < p.f2) = false := by simp; omega
    have k5 : ¬ x.f1 < p.f2 := by omega
    by_cases h6 : p.f2 = x.f1
    ·have h7 : p.f0 ≠ x.f0 := by
      rcases h5 with h5 | h5
      ·omega
      ·exact h5.2
     clear h5
     generalize hv1 : x.f1 = v1 at *
     generalize hv2 : x.f0 = v2 at *
     generalize hv3 : p.f2 = v3 at *
     generalize hv4 : p.f0 = v4 at *
     subst h6
     have c6 : (v4 == v2) = false := by simpa using h7
     have c7 : decide (v4 = v2) = false := by simpa using h7
     have c8 : ¬ v4 = v2 := h7
     clear h7 hv1 hv2 hv3 hv4
     go_wp2
     go_roundw
     case rel => exact ⟨jj + 1 + 1, by omega, by go_num, B4⟩
     case measure =>
      simp only [Mk.cntM]
      omega
    ·clear h5
     generalize hv1 : x.f1 = v1 at *
     generalize hv2 : x.f0 = v2 at *
     generalize hv3 : p.f2 = v3 at *
     generalize hv4 : p.f0 = v4 at *
     have c6 : (v3 == v1) = false := by simpa using h6
     have c7 : decide (v3 = v1) = false := by simpa using h6
     have c8 : ¬ v3 = v1 := h6
     clear h6 hv1 hv2 hv3 hv4
     go_wp2
     go_roundw
     case rel => exact ⟨jj + 1 + 1, by omega, by go_num, B4⟩
     case measure =>
      simp only [Mk.cntM]
      omega
  ·have d1 : decide ((kk : Int) < (xs.length : Int)) = false := by simp; omega
   have m1 := (blk_cell (blk_below XM.out ZW.out) 1).trans rfl
   go_wp2
   clear m1
   go_loopw [70] (fun s70 w2 => ∃ kk : Nat, kk ≤ ys.length ∧ s70 = .int .i64 (kk : Int) ∧ Hid (Below V.heap.size V w2)) (fun s70 _ => ys.length - Mk.cntM s70)
   case atStart => exact ⟨0, Nat.zero_le _, rfl, ZW⟩
   case round =>
    clear ZW d1
    obtain ⟨jj, hjj, rfl, YW⟩ := hrel
    by_cases hlt2 : jj < ys.length
    ·have d1 : decide ((jj : Int) < (ys.length : Int)) = true := by simp; omega
     have b1 : (0 : Int) ≤ (jj : Int) := by omega
     have b2 : (jj : Int) < (ys.length : Int) := by omega
     have w1_ : IntKind.i64.wrap ((jj : Int) + 1) = (jj : Int) + 1 := IntWalk.i64_in _ (by omega)
     obtain ⟨x, hx⟩ : ∃ x, ys[jj]? = some x := ⟨_, List.getElem?_eq_getElem hlt2⟩
     have HXX := Lib.hid hx
     obtain ⟨ad, e0, y0, y1⟩ := Mk.at_Y (Kd.C_below HS.out (below_step BV.out YW.out)) hx hlt2
     subst e0
     obtain ⟨g1, g2, g3⟩ := HY.out.1 x (List.mem_of_getElem? hx)
     clear hx
     go_upto_region 14 with (first | ((with_reducible refine gate_dst (N := 9) rfl ?_); refine box_event ?hg (N := 9) ?hd (cs := #[.int .i64 0, .int .i64 0]) (t := 70) ?hr ?_; (case hd => rfl); (case hg => rfl); (case hr => first | (go_simp; done) | (go_simp; rfl)); intro gB hgB wB hxB hbB; have GB := Lib.hid (show Mk.TBm 70 wr gB #[.int .i64 0, .int .i64 0] wB from ⟨hbB, by rw [hgB]; exact Nat.le_refl _, hxB⟩); have q0 := (blk_cell hxB 0).trans rfl; have q1 := (blk_cell hxB 1).trans rfl; have z0 := blk_frozen hxB 0; have z1 := blk_frozen hxB 1; clear hgB hxB hbB))
     refine gen2 (φ := fun W => Code.wp _ _ _ _ W) (P := fun W => Mk.TBm 70 wr gB #[.int .i64 x.f0, .int .i64 x.f1] W) ((GB.out.set 0 (.int .i64 x.f0)).set 1 (.int .i64 x.f1)) ?_
     clear q0 q1 z0 z1 GB y0 y1
     rintro V3 hV3
     have B3 := Lib.hid (below_step YW.out hV3.b)
     have T3 := Lib.hid hV3.hx
     clear hV3 YW
     have k1 : decide (x.f0 ≤ 0) = false := by simp; omega
     have k2 : decide (x.f1 < 0) = false := by simp; omega
     have k3 : decide (n < x.f1) = false := by simp; omega
     have f1 : ¬ x.f0 ≤ 0 := by omega
     have f2 : ¬ x.f1 < 0 := by omega
     have f3 : ¬ n < x.f1 := by omega
     clear g1 g2 g3
     by_cases hk : jj = 0
     ·have dk : decide ((0 : Int) < (jj : Int)) = false := by simp [hk]
      have nk : ¬ (0 : Int) < (jj : Int) := by omega
      have QS := Lib.hid (show RZ V3 gB w.heap.size (.slice (some ad) ys.length d) x V3 from ⟨(blk_cell T3.out 0).trans rfl, (blk_cell T3.out 1).trans rfl, (blk_cell (blk_below XM.out B3.out) 1).trans rfl, Below.refl _ _⟩)
      have z0 := QS.out.1
      have z1 := QS.out.2.1
      have z2 := QS.out.2.2.1
      clear QS
      go_quiet (fail)
      have B4 := Lib.hid (below_step B3.out (show Below V3.heap.size V3 (V3.drewN nq) from pw_below_drewN (Below.refl _ _) _))
      go_wp2
      go_roundw
      case rel => exact ⟨jj + 1, by omega, by go_num, B4⟩
      case measure =>
       simp only [Mk.cntM]
       omega
     ·obtain ⟨ii, rfl⟩ : ∃ ii, jj = ii + 1 := ⟨jj - 1, by omega⟩
      have dk : decide ((0 : Int) < ((ii + 1 : Nat) : Int)) = true := by simp
      have wp_ : IntKind.i64.wrap (((ii + 1 : Nat) : Int) - 1) = (ii : Int) := by rw [show ((ii + 1 : Nat) : Int) - 1 = (ii : Int) by omega]; exact IntWalk.i64_in _ (by omega)
      have wq_ : IntKind.i64.wrap (ii : Int) = (ii : Int) := IntWalk.i64_in _ (by omega)
      have p1 : (0 : Int) ≤ (ii : Int) := by omega
      have p2 : (ii : Int) < (ys.length : Int) := by omega
      obtain ⟨p, hp⟩ : ∃ p, ys[ii]? = some p := ⟨_, List.getElem?_eq_getElem (by omega)⟩
      obtain ⟨ad2, e2, y0, y1⟩ := Mk.at_Y (Kd.C_below HS.out (below_step BV.out B3.out)) hp (by omega)
      injection e2 with e2
      subst e2
      have LT := Lib.hid (site_next HY.out.2.1 hp HXX.out)
      clear hp
      have QS := Lib.hid (show RY V3 gB w.heap.size (.slice (some ad) ys.length d) x (ad.add (ii * 2)) p V3 from ⟨(blk_cell T3.out 0).trans rfl, (blk_cell T3.out 1).trans rfl, (blk_cell (blk_below XM.out B3.out) 1).trans rfl, y0, y1, Below.refl _ _⟩)
      clear y0 y1
      go_region_held3 (fun w' => RY V3 gB w.heap.size (.slice (some ad) ys.length d) x (ad.add (ii * 2)) p w')
       (first | (with_reducible assumption) | (with_reducible exact HS1.out) | exact QS.out.next (by with_reducible repeat (first | exact Below.refl _ _ | apply pw_below_drewN | apply Below.drew)))
       (first | (go_at_call 64; (refine (comp_calls p x _ LT.out).mono ?_); rintro e w9 ⟨⟨zz, rfl, hz⟩, hg9⟩; have HS1 := Lib.hid (RY.next (V := V3) (gB := gB) (gM := w.heap.size) (sv := .slice (some ad) ys.length d) (q := ad.add (ii * 2)) (y := p) (x := x) (by assumption) hg9); have zf : decide (0 ≤ zz) = false := (by simp; omega); have zn : ¬ 0 ≤ zz := (by omega); clear hg9 hz))
      have B4 := Lib.hid (below_step B3.out HS1.out.2.2.2.2.2)
      clear HS1 QS
      go_wp2
      go_roundw
      case rel => exact ⟨ii + 1 + 1, by omega, by go_num, B4⟩
      case measure =>
       simp only [Mk.cntM]
       omega
    ·have d1 : decide ((jj : Int) < (ys.length : Int)) = false := by simp; omega
     go_wp2
     refine bodyPost_ret (results_tmp rfl _ _ _) rfl ?_
     exact ⟨rfl, below_step BV.out YW.out⟩
end Go.Proofs.YtjphmebhofkhcaaDoor.Seg
/- Segments: segment.Load at values that may be loaded, over right_true. -/
namespace Go.Proofs.YtjphmebhofkhcaaDoor.Seg
open Go.RowKit Go.Proofs.YtjphmebhofkhcaaDoorPl Go.Proofs.YtjphmebhofkhcaaDoorW.PrintWords Go.Proofs.YtjphmebhofkhcaaDoorW.PrintLast Go.Proofs.YtjphmebhofkhcaaDoorW.PrintMore Go.Proofs.YtjphmebhofkhcaaDoor.Rope Go.Proofs.YtjphmebhofkhcaaDoor.PSegAll Go.Proofs.YtjphmebhofkhcaaDoor.Pure
set_option linter.unusedVariables false
set_option linter.unusedSimpArgs false
set_option maxRecDepth 1000000 in
set_option maxHeartbeats 4000000 in
theorem load_right (x : G) (A : Option Addr) (c : Nat) (B : Option Addr) (d : Nat) (w : World) (hT : Tabs w) (hr : GR w x A c B d) (h : Sz x) (hv : Lib.validD x.f2.data.toList = true) (hm : rightB (cnt x.f2) x.f3 x.f4 = true) :
  Calls Tryd.prog 11 #[.agg (gC x A c B d)] w (RetSeg x w) := by
 have KM := Lib.hid hm
 have HT := Lib.hid hT
 have HR := Lib.hid hr
 have HZ := Lib.hid h
 have HV := Lib.hid hv
 clear hT hr h hv
 clear hm
 go_enter Tryd.func11, Tryd.ntmps11
 go_upto_region 1 with (first | ((with_reducible refine gate_dst (N := 1) rfl ?_); refine box_event ?hg (N := 1) ?hd (cs := gC x A c B d) (t := 25) ?hr ?_; (case hd => rfl); (case hg => rfl); (case hr => first | (go_simp; done) | (go_simp; rfl)); intro gX hgX wX hxX hbX; have BX := Lib.hid hbX; have XX := Lib.hid hxX; clear hgX hxX hbX) | ((with_reducible refine gate_dst (N := 2) rfl ?_); refine box_event ?hg (N := 2) ?hd (cs := zC) (t := 31) ?hr ?_; (case hd => rfl); (case hg => rfl); (case hr => first | (go_simp; done) | (go_simp; rfl)); intro gR hgR wR hxR hbR; have BR := Lib.hid (below_step BX.out hbR); have GR_ := Lib.hid (show w.heap.size ≤ gR by rw [hgR]; exact BX.out.size); have XR := Lib.hid hxR; have X1 := Lib.hid (blk_below XX.out hbR); clear hgR hxR hbR))
 have a2 := blk_cell X1.out 2
 go_upto_region 2 with (first | (go_at_call 32; refine (new_rpS x.f2 _ HZ.out.s2 (HT.out.below BR.out) HV.out).mono ?_; rintro e w1 ⟨p, rfl, hi, hb⟩; have P1 := Lib.hid (show Le w gX gR x A c B d p x.f2 w1 from ⟨below_step BR.out hb, blk_below X1.out hb, blk_below XR.out hb, hi⟩); clear hi hb))
 clear a2
 have QS := Lib.hid (Q2.of P1.out.hX (Below.refl _ _))
 go_region_held3 (fun w' => Q2 w1 gX x A c B d w')
  (first | (with_reducible assumption) | (with_reducible exact HS5.out) | (with_reducible exact HS6.out) | (with_reducible exact Q2.of P1.out.hX (below_set (Q2.b HS6.out) (Nat.le_refl _))) | (with_reducible exact Q2.of P1.out.hX (below_set (below_set (Q2.b HS6.out) (Nat.le_refl _)) (Nat.le_refl _))) | (with_reducible exact Q2.of P1.out.hX (below_set (Q2.b HS6.out) (Q2.b HS5.out).size)) | (with_reducible exact Q2.of P1.out.hX (below_set (below_set (Q2.b HS6.out) (Q2.b HS5.out).size) (Q2.b HS5.out).size)) | (with_reducible exact Q2.next HS5.out (below_alloc (Below.refl _ _) _)) | (with_reducible exact Q2.next HS6.out (below_alloc (Below.refl _ _) _)) | exact QS.out.next (by (with_reducible repeat (first | exact Below.refl _ _ | apply pw_below_drewN | apply Below.drew | apply below_alloc))))
  (first
  | (go_at_call 33; (refine (clone67 A c x.f3 _ ?ca HR.out.c3 ?cl).mono ?_); (case ca => exact Kd.C_below HR.out.r3 (below_step P1.out.b (Q2.b (V := w1) (gX := gX) (x := x) (A := A) (c := c) (B := B) (d := d) (by assumption)))); (case cl => have := HZ.out.s3; omega); rintro e w5 ⟨v5, rfl, hr5, hb5⟩; obtain ⟨A5, c5, e5⟩ := Kd.R_slice hr5; subst e5; have HS5 := Lib.hid (Q2.next (V := w1) (gX := gX) (x := x) (A := A) (c := c) (B := B) (d := d) (by assumption) hb5); have R5 := Lib.hid hr5; (first | (refine genM (g := w1.heap.size) ?hq1 hb5 (fun M5 => ?_); (case hq1 => first | exact blk_newS rfl | exact blk_drew (blk_newS rfl))) | skip); clear hr5 hb5)
  | (go_at_call 34; (refine (clone70 B d x.f4 _ ?cb HR.out.c4 ?cm).mono ?_); (case cb => exact Kd.C_below HR.out.r4 (below_step P1.out.b (Q2.b (V := w1) (gX := gX) (x := x) (A := A) (c := c) (B := B) (d := d) (by assumption)))); (case cm => have := HZ.out.s4; omega); rintro e w6 ⟨v6, rfl, hr6, hb6⟩; obtain ⟨A6, c6, e6⟩ := Kd.R_slice hr6; subst e6; have HS6 := Lib.hid (Q2.next (V := w1) (gX := gX) (x := x) (A := A) (c := c) (B := B) (d := d) (by assumption) hb6); have R6 := Lib.hid hr6; have R5b := Lib.hid (Kd.R_below R5.out (below_step (by (with_reducible repeat (first | exact Below.refl _ _ | apply pw_below_drewN | apply Below.drew | apply below_alloc))) hb6)); (first | (refine genM (g := w1.heap.size) M5.out hb6 (fun M6 => ?_); have q0 := (blk_cell M6.out 0).trans rfl; have q1 := (blk_cell M6.out 1).trans rfl; have q2 := blk_frozen M6.out 0; have q3 := blk_frozen M6.out 1) | (refine genM (g := w5.heap.size) ?hq2 hb6 (fun M6 => ?_); (case hq2 => first | exact blk_newS rfl | exact blk_drew (blk_newS rfl)); have q0 := (blk_cell M6.out 0).trans rfl; have q1 := (blk_cell M6.out 1).trans rfl; have q2 := blk_frozen M6.out 0; have q3 := blk_frozen M6.out 1) | skip); clear hr6 hb6))
 all_goals
  go_upto_region 3 with (fail)
  first
   | (refine gen2 (φ := fun W => Code.wp _ _ _ _ W) (P := fun W => Lm w gX gR x A c B d p x.f2 w1.heap.size A5 c5 A6 c6 W) ⟨P1.out.next (below_set (below_set (Q2.b HS6.out) (Nat.le_refl _)) (Nat.le_refl _)), by simpa using blk_set (blk_set M6.out 0 (.slice A5 x.f3.length c5)) 1 (.slice A6 x.f4.length c6), tr_set2 (TR.of R5b.out R6.out) M6.out _ _⟩ ?_; clear q0 q1 q2 q3 M6; generalize w1.heap.size = gM)
   | (refine gen2 (φ := fun W => Code.wp _ _ _ _ W) (P := fun W => Lm w gX gR x A c B d p x.f2 w5.heap.size A5 c5 A6 c6 W) ⟨P1.out.next (below_set (below_set (Q2.b HS6.out) (Q2.b HS5.out).size) (Q2.b HS5.out).size), by simpa using blk_set (blk_set M6.out 0 (.slice A5 x.f3.length c5)) 1 (.slice A6 x.f4.length c6), tr_set2 (TR.of R5b.out R6.out) M6.out _ _⟩ ?_; clear q0 q1 q2 q3 M6; generalize w5.heap.size = gM)
   | (refine gen2 (φ := fun W => Code.wp _ _ _ _ W) (P := fun W => Lm w gX gR x A c B d p x.f2 w6.heap.size A5 c5 A6 c6 W) ⟨P1.out.next (below_alloc (Q2.b HS6.out) _), blk_newS rfl, (TR.of R5b.out R6.out).below (below_alloc (Below.refl _ _) _)⟩ ?_; generalize w6.heap.size = gM)
  rintro V hV
  have PV := Lib.hid hV
  have m0 := (blk_cell hV.hM 0).trans rfl
  have m1 := (blk_cell hV.hM 1).trans rfl
  clear hV P1 QS HS5 HS6 R5 R6 R5b
 all_goals
  have QN := Lib.hid (QM.of PV.out.hM (Below.refl _ _))
  clear m0 m1
  go_region_held3 (fun w' => QM V gM x A5 c5 A6 c6 w')
   (first | (with_reducible assumption) | (with_reducible exact HS7.out) | (with_reducible exact HS8.out) | exact QN.out.next (by (with_reducible repeat (first | exact Below.refl _ _ | apply pw_below_drewN | apply Below.drew | apply below_alloc))))
   (first
   | (go_at_call 36; (refine (len_rpb (p := p) (s := x.f2) ?ca HZ.out.s2).mono ?_); (case ca => exact PV.out.rp.below (QM.b (V := V) (gX := gM) (x := x) (A := A5) (c := c5) (B := A6) (d := c6) (by assumption))); rintro e w7 ⟨rfl, hb7⟩; have HS7 := Lib.hid (QM.next (V := V) (gX := gM) (x := x) (A := A5) (c := c5) (B := A6) (d := c6) (by assumption) hb7); clear hb7)
   | (go_at_call 35; (refine (right_true A5 c5 x.f3 A6 c6 x.f4 (cnt x.f2) _ ?r3 ?r4 HZ.out.s3 HZ.out.s4 KM.out).mono ?_); (case r3 => exact Kd.C_below PV.out.tr.r3 (QM.b (V := V) (gX := gM) (x := x) (A := A5) (c := c5) (B := A6) (d := c6) (by assumption))); (case r4 => exact Kd.C_below PV.out.tr.r4 (QM.b (V := V) (gX := gM) (x := x) (A := A5) (c := c5) (B := A6) (d := c6) (by assumption))); rintro e w8 ⟨rfl, hb8⟩; have HS8 := Lib.hid (QM.next (V := V) (gX := gM) (x := x) (A := A5) (c := c5) (B := A6) (d := c6) (by assumption) hb8); clear hb8))
  all_goals
   have P8 := Lib.hid (PV.out.next (QM.b HS8.out))
   clear QN HS7 HS8
   have r0 := (blk_cell P8.out.hR 0).trans rfl
   have f0 := blk_frozen P8.out.hR 0
   have r1 := (blk_cell P8.out.hR 1).trans rfl
   have f1 := blk_frozen P8.out.hR 1
   have r2 := (blk_cell P8.out.hR 2).trans rfl
   have f2 := blk_frozen P8.out.hR 2
   have r3 := (blk_cell P8.out.hR 3).trans rfl
   have f3 := blk_frozen P8.out.hR 3
   have r4 := (blk_cell P8.out.hR 4).trans rfl
   have f4 := blk_frozen P8.out.hR 4
   have x0_ := (blk_cell P8.out.hX 0).trans rfl
   have x1_ := (blk_cell P8.out.hX 1).trans rfl
   have m0 := (blk_cell P8.out.hM 0).trans rfl
   have m1 := (blk_cell P8.out.hM 1).trans rfl
   go_wp2
   have S5 := sp_set (sp_set (sp_set (sp_set (sp_set (show SP w8 x p A5 c5 A6 c6 ∧ w8.heap[gR]? = some (.cells zC 31 (0, 0)) from ⟨⟨P8.out.tr, P8.out.rp⟩, P8.out.hR⟩) 0 (.int .i64 x.f0)) 1 (.int .i64 x.f1)) 2 (.pointer p)) 3 (.slice A5 x.f3.length c5)) 4 (.slice A6 x.f4.length c6)
   refine bodyPost_ret (results_ct rfl _ _ gR 31 (sgC x p A5 c5 A6 c6) (0, 0) _ rfl (by simpa using S5.2) Tryd.underlying31 rfl (by kernel_rfl)) rfl ?_
   exact ⟨p, A5, c5, A6, c6, rfl, S5.1, below_set (below_set (below_set (below_set (below_set P8.out.b GR_.out) GR_.out) GR_.out) GR_.out) GR_.out⟩
theorem segLoad_good2 (x : G) (A : Option Addr) (c : Nat) (B : Option Addr) (d : Nat) (w : World) (hT : Tabs w) (hr : GR w x A c B d) (h : Sz x) (hv : okB x = true) :
  Calls Tryd.prog 11 #[.agg (gC x A c B d)] w (RetSeg x w) :=
 load_right x A c B d w hT hr h (okB_true hv).1 (okB_true hv).2
end Go.Proofs.YtjphmebhofkhcaaDoor.Seg
/- Segments: the walk of the laws' own loaded; Insert's answer on both sides. Conditions: texts of at most 2^30 bytes. -/
namespace Go.Proofs.YtjphmebhofkhcaaDoor.Seg
open Go.RowKit Go.Proofs.YtjphmebhofkhcaaDoorPl Go.Proofs.YtjphmebhofkhcaaDoorW.PrintWords Go.Proofs.YtjphmebhofkhcaaDoorW.PrintLast Go.Proofs.YtjphmebhofkhcaaDoorW.PrintMore Go.Proofs.YtjphmebhofkhcaaDoor.Rope Go.Proofs.YtjphmebhofkhcaaDoor.PSegAll Go.Proofs.YtjphmebhofkhcaaDoor.Pure
set_option linter.unusedVariables false
set_option linter.unusedSimpArgs false
abbrev D := S37
abbrev dC (y : D) : Array Value := #[.int .i64 y.f0, .int .i64 y.f1, .int .i64 y.f2, .int .i64 y.f3, .string y.f4]
noncomputable def loadOk (x : G) (t : ByteArray) : Bool := smallB x && okB x && decide (t.size ≤ 1500) && Lib.validD t.data.toList
/-- Three blocks of loaded's own. -/
structure LZ (w : World) (x : G) (A : Option Addr) (c : Nat) (B : Option Addr) (d : Nat) (y : D) (W : World) : Prop where
 b : Below w.heap.size w W
 h2 : W.heap[w.heap.size]? = some (.cells (gC x A c B d) 25 (0, 0))
 h3 : W.heap[w.heap.size + 1]? = some (.cells (dC y) 37 (0, 0))
 h4 : W.heap[w.heap.size + 2]? = some (.cells zC 31 (0, 0))
theorem LZ.next {w W W' : World} {x : G} {A : Option Addr} {c : Nat} {B : Option Addr} {d : Nat} {y : D} (h : LZ w x A c B d y W) (hb : Below W.heap.size W W') : LZ w x A c B d y W' := ⟨below_step h.b hb, blk_below h.h2 hb, blk_below h.h3 hb, blk_below h.h4 hb⟩
set_option maxRecDepth 1000000 in
set_option maxHeartbeats 8000000 in
theorem loaded5_calls (x : G) (A : Option Addr) (c : Nat) (B : Option Addr) (d : Nat) (y : D) (w : World) (hT : Tabs w) (hr : GR w x A c B d) (hy : y.f4.size ≤ 140737488355328) :
  Calls Tryd.prog 18 #[.agg (gC x A c B d), .agg (dC y)] w fun e w' => if loadOk x y.f4 = true then RetSeg x w e w' else e = .returned (.tuple #[.agg zC, .bool false]) ∧ Below w.heap.size w w' := by
 have HT := Lib.hid hT
 have HR := Lib.hid hr
 clear hT hr
 obtain ⟨sb, hsb⟩ : ∃ b, b = smallB x := ⟨_, rfl⟩
 obtain ⟨ob, hob⟩ : ∃ b, b = okB x := ⟨_, rfl⟩
 obtain ⟨vb, hvb⟩ : ∃ b, b = Lib.validD y.f4.data.toList := ⟨_, rfl⟩
 unfold loadOk
 rw [← hsb, ← hob, ← hvb]
 have HSB := Lib.hid hsb
 have HOB := Lib.hid hob
 have HVB := Lib.hid hvb
 clear hsb hob hvb
 cases sb with
 | false =>
  simp only [Bool.false_and, Bool.false_eq_true, if_false]
  go_enter Tryd.func18, Tryd.ntmps18
  go_upto_region 1 with fail
  refine gen2 (φ := fun W => Code.wp _ _ _ _ W) (P := fun W => LZ w x A c B d y W) ⟨below_alloc (below_alloc (below_alloc (Below.refl _ _) _) _) _, blk_alloc (blk_alloc (blk_new w _) _) _, blk_alloc (blk_newS (by simp)) _, blk_newS (by simp)⟩ ?_
  intro V0 hV0
  have ZZ := Lib.hid hV0
  have d4 := (blk_cell hV0.h3 4).trans rfl
  clear hV0
  have x0 := (blk_cell ZZ.out.h2 0).trans rfl
  have x1 := (blk_cell ZZ.out.h2 1).trans rfl
  have x2 := (blk_cell ZZ.out.h2 2).trans rfl
  have x3 := (blk_cell ZZ.out.h2 3).trans rfl
  have x4 := (blk_cell ZZ.out.h2 4).trans rfl
  go_upto_region 2 with (first | (go_at_call 10; refine (small5_calls x A c B d _ (HR.out.below ZZ.out.b)).mono ?_; rw [← HSB.out]; rintro e wn ⟨rfl, hb⟩; have ZN := Lib.hid (ZZ.out.next hb); clear ZZ; have ZZ := ZN; clear ZN hb; clear x0 x1 x2 x3 x4 d4; have d4 := (blk_cell ZZ.out.h3 4).trans rfl; have x0 := (blk_cell ZZ.out.h2 0).trans rfl; have x1 := (blk_cell ZZ.out.h2 1).trans rfl; have x2 := (blk_cell ZZ.out.h2 2).trans rfl; have x3 := (blk_cell ZZ.out.h2 3).trans rfl; have x4 := (blk_cell ZZ.out.h2 4).trans rfl) | (go_at_call 12; refine (right5_calls x A c B d _ (HR.out.below ZZ.out.b) HZ.out).mono ?_; rw [← HOB.out]; rintro e wn ⟨rfl, hb⟩; have ZN := Lib.hid (ZZ.out.next hb); clear ZZ; have ZZ := ZN; clear ZN hb; clear x0 x1 x2 x3 x4 d4; have d4 := (blk_cell ZZ.out.h3 4).trans rfl; have x0 := (blk_cell ZZ.out.h2 0).trans rfl; have x1 := (blk_cell ZZ.out.h2 1).trans rfl; have x2 := (blk_cell ZZ.out.h2 2).trans rfl; have x3 := (blk_cell ZZ.out.h2 3).trans rfl; have x4 := (blk_cell ZZ.out.h2 4).trans rfl) | (go_at_call 37; refine (refRight_calls y.f4 _ (by omega)).mono ?_; rw [← HVB.out]; rintro e wn ⟨rfl, hb⟩; have ZN := Lib.hid (ZZ.out.next hb); clear ZZ; have ZZ := ZN; clear ZN hb; clear x0 x1 x2 x3 x4 d4; have d4 := (blk_cell ZZ.out.h3 4).trans rfl; have x0 := (blk_cell ZZ.out.h2 0).trans rfl; have x1 := (blk_cell ZZ.out.h2 1).trans rfl; have x2 := (blk_cell ZZ.out.h2 2).trans rfl; have x3 := (blk_cell ZZ.out.h2 3).trans rfl; have x4 := (blk_cell ZZ.out.h2 4).trans rfl))
  have r0 := (blk_cell ZZ.out.h4 0).trans rfl
  have z0 := blk_frozen ZZ.out.h4 0
  have r1 := (blk_cell ZZ.out.h4 1).trans rfl
  have z1 := blk_frozen ZZ.out.h4 1
  have r2 := (blk_cell ZZ.out.h4 2).trans rfl
  have z2 := blk_frozen ZZ.out.h4 2
  have r3 := (blk_cell ZZ.out.h4 3).trans rfl
  have z3 := blk_frozen ZZ.out.h4 3
  have r4 := (blk_cell ZZ.out.h4 4).trans rfl
  have z4 := blk_frozen ZZ.out.h4 4
  go_wp2
  refine bodyPost_ret (results_ct rfl _ _ (w.heap.size + 2) 31 zC (0, 0) _ rfl (by simpa using lay0_sp ZZ.out.h4) Tryd.underlying31 rfl (by kernel_rfl)) rfl ?_
  exact ⟨rfl, lay0_below ZZ.out.b (by omega)⟩
 | true =>
  have HZ := Lib.hid (small_sz HSB.out.symm)
  cases ob with
  | false =>
   simp only [Bool.and_false, Bool.false_and, Bool.false_eq_true, if_false]
   go_enter Tryd.func18, Tryd.ntmps18
   go_upto_region 1 with fail
   refine gen2 (φ := fun W => Code.wp _ _ _ _ W) (P := fun W => LZ w x A c B d y W) ⟨below_alloc (below_alloc (below_alloc (Below.refl _ _) _) _) _, blk_alloc (blk_alloc (blk_new w _) _) _, blk_alloc (blk_newS (by simp)) _, blk_newS (by simp)⟩ ?_
   intro V0 hV0
   have ZZ := Lib.hid hV0
   have d4 := (blk_cell hV0.h3 4).trans rfl
   clear hV0
   have x0 := (blk_cell ZZ.out.h2 0).trans rfl
   have x1 := (blk_cell ZZ.out.h2 1).trans rfl
   have x2 := (blk_cell ZZ.out.h2 2).trans rfl
   have x3 := (blk_cell ZZ.out.h2 3).trans rfl
   have x4 := (blk_cell ZZ.out.h2 4).trans rfl
   go_upto_region 2 with (first | (go_at_call 10; refine (small5_calls x A c B d _ (HR.out.below ZZ.out.b)).mono ?_; rw [← HSB.out]; rintro e wn ⟨rfl, hb⟩; have ZN := Lib.hid (ZZ.out.next hb); clear ZZ; have ZZ := ZN; clear ZN hb; clear x0 x1 x2 x3 x4 d4; have d4 := (blk_cell ZZ.out.h3 4).trans rfl; have x0 := (blk_cell ZZ.out.h2 0).trans rfl; have x1 := (blk_cell ZZ.out.h2 1).trans rfl; have x2 := (blk_cell ZZ.out.h2 2).trans rfl; have x3 := (blk_cell ZZ.out.h2 3).trans rfl; have x4 := (blk_cell ZZ.out.h2 4).trans rfl) | (go_at_call 12; refine (right5_calls x A c B d _ (HR.out.below ZZ.out.b) HZ.out).mono ?_; rw [← HOB.out]; rintro e wn ⟨rfl, hb⟩; have ZN := Lib.hid (ZZ.out.next hb); clear ZZ; have ZZ := ZN; clear ZN hb; clear x0 x1 x2 x3 x4 d4; have d4 := (blk_cell ZZ.out.h3 4).trans rfl; have x0 := (blk_cell ZZ.out.h2 0).trans rfl; have x1 := (blk_cell ZZ.out.h2 1).trans rfl; have x2 := (blk_cell ZZ.out.h2 2).trans rfl; have x3 := (blk_cell ZZ.out.h2 3).trans rfl; have x4 := (blk_cell ZZ.out.h2 4).trans rfl) | (go_at_call 37; refine (refRight_calls y.f4 _ (by omega)).mono ?_; rw [← HVB.out]; rintro e wn ⟨rfl, hb⟩; have ZN := Lib.hid (ZZ.out.next hb); clear ZZ; have ZZ := ZN; clear ZN hb; clear x0 x1 x2 x3 x4 d4; have d4 := (blk_cell ZZ.out.h3 4).trans rfl; have x0 := (blk_cell ZZ.out.h2 0).trans rfl; have x1 := (blk_cell ZZ.out.h2 1).trans rfl; have x2 := (blk_cell ZZ.out.h2 2).trans rfl; have x3 := (blk_cell ZZ.out.h2 3).trans rfl; have x4 := (blk_cell ZZ.out.h2 4).trans rfl))
   have r0 := (blk_cell ZZ.out.h4 0).trans rfl
   have z0 := blk_frozen ZZ.out.h4 0
   have r1 := (blk_cell ZZ.out.h4 1).trans rfl
   have z1 := blk_frozen ZZ.out.h4 1
   have r2 := (blk_cell ZZ.out.h4 2).trans rfl
   have z2 := blk_frozen ZZ.out.h4 2
   have r3 := (blk_cell ZZ.out.h4 3).trans rfl
   have z3 := blk_frozen ZZ.out.h4 3
   have r4 := (blk_cell ZZ.out.h4 4).trans rfl
   have z4 := blk_frozen ZZ.out.h4 4
   go_wp2
   refine bodyPost_ret (results_ct rfl _ _ (w.heap.size + 2) 31 zC (0, 0) _ rfl (by simpa using lay0_sp ZZ.out.h4) Tryd.underlying31 rfl (by kernel_rfl)) rfl ?_
   exact ⟨rfl, lay0_below ZZ.out.b (by omega)⟩
  | true =>
   by_cases hsz : y.f4.size ≤ 1500
   ·have ds : decide ((1500 : Int) < (y.f4.size : Int)) = false := by simp; omega
    cases vb with
    | false =>
     simp only [Bool.and_false, Bool.false_eq_true, if_false]
     go_enter Tryd.func18, Tryd.ntmps18
     go_upto_region 1 with fail
     refine gen2 (φ := fun W => Code.wp _ _ _ _ W) (P := fun W => LZ w x A c B d y W) ⟨below_alloc (below_alloc (below_alloc (Below.refl _ _) _) _) _, blk_alloc (blk_alloc (blk_new w _) _) _, blk_alloc (blk_newS (by simp)) _, blk_newS (by simp)⟩ ?_
     intro V0 hV0
     have ZZ := Lib.hid hV0
     have d4 := (blk_cell hV0.h3 4).trans rfl
     clear hV0
     have x0 := (blk_cell ZZ.out.h2 0).trans rfl
     have x1 := (blk_cell ZZ.out.h2 1).trans rfl
     have x2 := (blk_cell ZZ.out.h2 2).trans rfl
     have x3 := (blk_cell ZZ.out.h2 3).trans rfl
     have x4 := (blk_cell ZZ.out.h2 4).trans rfl
     go_upto_region 2 with (first | (go_at_call 10; refine (small5_calls x A c B d _ (HR.out.below ZZ.out.b)).mono ?_; rw [← HSB.out]; rintro e wn ⟨rfl, hb⟩; have ZN := Lib.hid (ZZ.out.next hb); clear ZZ; have ZZ := ZN; clear ZN hb; clear x0 x1 x2 x3 x4 d4; have d4 := (blk_cell ZZ.out.h3 4).trans rfl; have x0 := (blk_cell ZZ.out.h2 0).trans rfl; have x1 := (blk_cell ZZ.out.h2 1).trans rfl; have x2 := (blk_cell ZZ.out.h2 2).trans rfl; have x3 := (blk_cell ZZ.out.h2 3).trans rfl; have x4 := (blk_cell ZZ.out.h2 4).trans rfl) | (go_at_call 12; refine (right5_calls x A c B d _ (HR.out.below ZZ.out.b) HZ.out).mono ?_; rw [← HOB.out]; rintro e wn ⟨rfl, hb⟩; have ZN := Lib.hid (ZZ.out.next hb); clear ZZ; have ZZ := ZN; clear ZN hb; clear x0 x1 x2 x3 x4 d4; have d4 := (blk_cell ZZ.out.h3 4).trans rfl; have x0 := (blk_cell ZZ.out.h2 0).trans rfl; have x1 := (blk_cell ZZ.out.h2 1).trans rfl; have x2 := (blk_cell ZZ.out.h2 2).trans rfl; have x3 := (blk_cell ZZ.out.h2 3).trans rfl; have x4 := (blk_cell ZZ.out.h2 4).trans rfl) | (go_at_call 37; refine (refRight_calls y.f4 _ (by omega)).mono ?_; rw [← HVB.out]; rintro e wn ⟨rfl, hb⟩; have ZN := Lib.hid (ZZ.out.next hb); clear ZZ; have ZZ := ZN; clear ZN hb; clear x0 x1 x2 x3 x4 d4; have d4 := (blk_cell ZZ.out.h3 4).trans rfl; have x0 := (blk_cell ZZ.out.h2 0).trans rfl; have x1 := (blk_cell ZZ.out.h2 1).trans rfl; have x2 := (blk_cell ZZ.out.h2 2).trans rfl; have x3 := (blk_cell ZZ.out.h2 3).trans rfl; have x4 := (blk_cell ZZ.out.h2 4).trans rfl))
     have r0 := (blk_cell ZZ.out.h4 0).trans rfl
     have z0 := blk_frozen ZZ.out.h4 0
     have r1 := (blk_cell ZZ.out.h4 1).trans rfl
     have z1 := blk_frozen ZZ.out.h4 1
     have r2 := (blk_cell ZZ.out.h4 2).trans rfl
     have z2 := blk_frozen ZZ.out.h4 2
     have r3 := (blk_cell ZZ.out.h4 3).trans rfl
     have z3 := blk_frozen ZZ.out.h4 3
     have r4 := (blk_cell ZZ.out.h4 4).trans rfl
     have z4 := blk_frozen ZZ.out.h4 4
     go_wp2
     refine bodyPost_ret (results_ct rfl _ _ (w.heap.size + 2) 31 zC (0, 0) _ rfl (by simpa using lay0_sp ZZ.out.h4) Tryd.underlying31 rfl (by kernel_rfl)) rfl ?_
     exact ⟨rfl, lay0_below ZZ.out.b (by omega)⟩
    | true =>
     have e1 : (true && true && decide (y.f4.size ≤ 1500) && true) = true := by rw [decide_eq_true hsz]; rfl
     simp only [e1, if_true]
     clear e1
     go_enter Tryd.func18, Tryd.ntmps18
     go_upto_region 1 with fail
     refine gen2 (φ := fun W => Code.wp _ _ _ _ W) (P := fun W => LZ w x A c B d y W) ⟨below_alloc (below_alloc (below_alloc (Below.refl _ _) _) _) _, blk_alloc (blk_alloc (blk_new w _) _) _, blk_alloc (blk_newS (by simp)) _, blk_newS (by simp)⟩ ?_
     intro V0 hV0
     have ZZ := Lib.hid hV0
     have d4 := (blk_cell hV0.h3 4).trans rfl
     clear hV0
     have x0 := (blk_cell ZZ.out.h2 0).trans rfl
     have x1 := (blk_cell ZZ.out.h2 1).trans rfl
     have x2 := (blk_cell ZZ.out.h2 2).trans rfl
     have x3 := (blk_cell ZZ.out.h2 3).trans rfl
     have x4 := (blk_cell ZZ.out.h2 4).trans rfl
     go_upto_region 3 with (first | (go_at_call 10; refine (small5_calls x A c B d _ (HR.out.below ZZ.out.b)).mono ?_; rw [← HSB.out]; rintro e wn ⟨rfl, hb⟩; have ZN := Lib.hid (ZZ.out.next hb); clear ZZ; have ZZ := ZN; clear ZN hb; clear x0 x1 x2 x3 x4 d4; have d4 := (blk_cell ZZ.out.h3 4).trans rfl; have x0 := (blk_cell ZZ.out.h2 0).trans rfl; have x1 := (blk_cell ZZ.out.h2 1).trans rfl; have x2 := (blk_cell ZZ.out.h2 2).trans rfl; have x3 := (blk_cell ZZ.out.h2 3).trans rfl; have x4 := (blk_cell ZZ.out.h2 4).trans rfl) | (go_at_call 12; refine (right5_calls x A c B d _ (HR.out.below ZZ.out.b) HZ.out).mono ?_; rw [← HOB.out]; rintro e wn ⟨rfl, hb⟩; have ZN := Lib.hid (ZZ.out.next hb); clear ZZ; have ZZ := ZN; clear ZN hb; clear x0 x1 x2 x3 x4 d4; have d4 := (blk_cell ZZ.out.h3 4).trans rfl; have x0 := (blk_cell ZZ.out.h2 0).trans rfl; have x1 := (blk_cell ZZ.out.h2 1).trans rfl; have x2 := (blk_cell ZZ.out.h2 2).trans rfl; have x3 := (blk_cell ZZ.out.h2 3).trans rfl; have x4 := (blk_cell ZZ.out.h2 4).trans rfl) | (go_at_call 37; refine (refRight_calls y.f4 _ (by omega)).mono ?_; rw [← HVB.out]; rintro e wn ⟨rfl, hb⟩; have ZN := Lib.hid (ZZ.out.next hb); clear ZZ; have ZZ := ZN; clear ZN hb; clear x0 x1 x2 x3 x4 d4; have d4 := (blk_cell ZZ.out.h3 4).trans rfl; have x0 := (blk_cell ZZ.out.h2 0).trans rfl; have x1 := (blk_cell ZZ.out.h2 1).trans rfl; have x2 := (blk_cell ZZ.out.h2 2).trans rfl; have x3 := (blk_cell ZZ.out.h2 3).trans rfl; have x4 := (blk_cell ZZ.out.h2 4).trans rfl))
     go_wp2_with fail
     (go_at_call 11; refine (segLoad_good2 x A c B d _ (HT.out.below ZZ.out.b) (HR.out.below ZZ.out.b) HZ.out HOB.out.symm).mono ?_; rintro e w3 ⟨p, A5, c5, B5, d5, rfl, s3, hb3⟩; have Z3 := Lib.hid (ZZ.out.next hb3); have S3 := Lib.hid s3; clear s3 hb3)
     clear x0 x1 x2 x3 x4 d4
     have r0 := (blk_cell Z3.out.h4 0).trans rfl
     have z0 := blk_frozen Z3.out.h4 0
     have r1 := (blk_cell Z3.out.h4 1).trans rfl
     have z1 := blk_frozen Z3.out.h4 1
     have r2 := (blk_cell Z3.out.h4 2).trans rfl
     have z2 := blk_frozen Z3.out.h4 2
     have r3 := (blk_cell Z3.out.h4 3).trans rfl
     have z3 := blk_frozen Z3.out.h4 3
     have r4 := (blk_cell Z3.out.h4 4).trans rfl
     have z4 := blk_frozen Z3.out.h4 4
     go_wp2
     have L := lay5_sp (y := x) (p := p) (A := A5) (c := c5) (B := B5) (d := d5) S3.out Z3.out.h4
     refine bodyPost_ret (results_ct rfl _ _ (w.heap.size + 2) 31 (sgC x p A5 c5 B5 d5) (0, 0) _ rfl (by simpa using L.2) Tryd.underlying31 rfl (by kernel_rfl)) rfl ?_
     exact ⟨p, A5, c5, B5, d5, rfl, L.1, lay5_below (y := x) (p := p) (A := A5) (c := c5) (B := B5) (d := d5) Z3.out.b (by omega)⟩
   ·have ds : decide ((1500 : Int) < (y.f4.size : Int)) = true := by simp; omega
    have e1 : (true && true && decide (y.f4.size ≤ 1500) && vb) = false := by rw [decide_eq_false hsz]; rfl
    simp only [e1, Bool.false_eq_true, if_false]
    clear e1
    go_enter Tryd.func18, Tryd.ntmps18
    go_upto_region 1 with fail
    refine gen2 (φ := fun W => Code.wp _ _ _ _ W) (P := fun W => LZ w x A c B d y W) ⟨below_alloc (below_alloc (below_alloc (Below.refl _ _) _) _) _, blk_alloc (blk_alloc (blk_new w _) _) _, blk_alloc (blk_newS (by simp)) _, blk_newS (by simp)⟩ ?_
    intro V0 hV0
    have ZZ := Lib.hid hV0
    have d4 := (blk_cell hV0.h3 4).trans rfl
    clear hV0
    have x0 := (blk_cell ZZ.out.h2 0).trans rfl
    have x1 := (blk_cell ZZ.out.h2 1).trans rfl
    have x2 := (blk_cell ZZ.out.h2 2).trans rfl
    have x3 := (blk_cell ZZ.out.h2 3).trans rfl
    have x4 := (blk_cell ZZ.out.h2 4).trans rfl
    go_upto_region 2 with (first | (go_at_call 10; refine (small5_calls x A c B d _ (HR.out.below ZZ.out.b)).mono ?_; rw [← HSB.out]; rintro e wn ⟨rfl, hb⟩; have ZN := Lib.hid (ZZ.out.next hb); clear ZZ; have ZZ := ZN; clear ZN hb; clear x0 x1 x2 x3 x4 d4; have d4 := (blk_cell ZZ.out.h3 4).trans rfl; have x0 := (blk_cell ZZ.out.h2 0).trans rfl; have x1 := (blk_cell ZZ.out.h2 1).trans rfl; have x2 := (blk_cell ZZ.out.h2 2).trans rfl; have x3 := (blk_cell ZZ.out.h2 3).trans rfl; have x4 := (blk_cell ZZ.out.h2 4).trans rfl) | (go_at_call 12; refine (right5_calls x A c B d _ (HR.out.below ZZ.out.b) HZ.out).mono ?_; rw [← HOB.out]; rintro e wn ⟨rfl, hb⟩; have ZN := Lib.hid (ZZ.out.next hb); clear ZZ; have ZZ := ZN; clear ZN hb; clear x0 x1 x2 x3 x4 d4; have d4 := (blk_cell ZZ.out.h3 4).trans rfl; have x0 := (blk_cell ZZ.out.h2 0).trans rfl; have x1 := (blk_cell ZZ.out.h2 1).trans rfl; have x2 := (blk_cell ZZ.out.h2 2).trans rfl; have x3 := (blk_cell ZZ.out.h2 3).trans rfl; have x4 := (blk_cell ZZ.out.h2 4).trans rfl) | (go_at_call 37; refine (refRight_calls y.f4 _ (by omega)).mono ?_; rw [← HVB.out]; rintro e wn ⟨rfl, hb⟩; have ZN := Lib.hid (ZZ.out.next hb); clear ZZ; have ZZ := ZN; clear ZN hb; clear x0 x1 x2 x3 x4 d4; have d4 := (blk_cell ZZ.out.h3 4).trans rfl; have x0 := (blk_cell ZZ.out.h2 0).trans rfl; have x1 := (blk_cell ZZ.out.h2 1).trans rfl; have x2 := (blk_cell ZZ.out.h2 2).trans rfl; have x3 := (blk_cell ZZ.out.h2 3).trans rfl; have x4 := (blk_cell ZZ.out.h2 4).trans rfl))
    have r0 := (blk_cell ZZ.out.h4 0).trans rfl
    have z0 := blk_frozen ZZ.out.h4 0
    have r1 := (blk_cell ZZ.out.h4 1).trans rfl
    have z1 := blk_frozen ZZ.out.h4 1
    have r2 := (blk_cell ZZ.out.h4 2).trans rfl
    have z2 := blk_frozen ZZ.out.h4 2
    have r3 := (blk_cell ZZ.out.h4 3).trans rfl
    have z3 := blk_frozen ZZ.out.h4 3
    have r4 := (blk_cell ZZ.out.h4 4).trans rfl
    have z4 := blk_frozen ZZ.out.h4 4
    go_wp2
    refine bodyPost_ret (results_ct rfl _ _ (w.heap.size + 2) 31 zC (0, 0) _ rfl (by simpa using lay0_sp ZZ.out.h4) Tryd.underlying31 rfl (by kernel_rfl)) rfl ?_
    exact ⟨rfl, lay0_below ZZ.out.b (by omega)⟩
theorem loadOk_iff {x : G} {t : ByteArray} (h : loadOk x t = true) : smallB x = true ∧ InsOk x t := by
 unfold loadOk at h
 rw [Bool.and_eq_true, Bool.and_eq_true, Bool.and_eq_true, decide_eq_true_eq] at h
 obtain ⟨⟨⟨h1, h2⟩, h3⟩, h4⟩ := h
 exact ⟨h1, small_sz h1, h2, by have := (small_iff h1).1; omega, by omega, h4⟩
end Go.Proofs.YtjphmebhofkhcaaDoor.Seg
/- Segments: the walk of the law SegmentInsert. Conditions: none beside the row's. -/
namespace Go.Proofs.YtjphmebhofkhcaaDoor.Seg
open Go.RowKit Go.Proofs.YtjphmebhofkhcaaDoorPl Go.Proofs.YtjphmebhofkhcaaDoorW.PrintWords Go.Proofs.YtjphmebhofkhcaaDoorW.PrintLast Go.Proofs.YtjphmebhofkhcaaDoorW.PrintMore Go.Proofs.YtjphmebhofkhcaaDoor.Rope Go.Proofs.YtjphmebhofkhcaaDoor.PSegAll Go.Proofs.YtjphmebhofkhcaaDoor.Pure
set_option linter.unusedVariables false
set_option linter.unusedSimpArgs false
theorem lets_ascii (s : ByteArray) (h : ∀ b ∈ s.data.toList, b.toNat < 128) : lets s = Rope.one s.data.toList := lets_eq (one_letts h) (one_flat _)
/-- The law's arguments in blocks of its own. -/
structure JZ (w : World) (x : G) (A : Option Addr) (c : Nat) (B : Option Addr) (d : Nat) (y : D) (W : World) : Prop where
 b : Below w.heap.size w W
 h2 : W.heap[w.heap.size]? = some (.cells (gC x A c B d) 25 (0, 0))
 h3 : W.heap[w.heap.size + 1]? = some (.cells (dC y) 37 (0, 0))
theorem JZ.next {w W W' : World} {x : G} {A : Option Addr} {c : Nat} {B : Option Addr} {d : Nat} {y : D} (h : JZ w x A c B d y W) (hb : Below W.heap.size W W') : JZ w x A c B d y W' := ⟨below_step h.b hb, blk_below h.h2 hb, blk_below h.h3 hb⟩
/-- A segment in a block. -/
structure SB (g : Nat) (x : G) (p A : Option Addr) (c : Nat) (B : Option Addr) (d : Nat) (W : World) : Prop where
 sp : SP W x p A c B d
 h : W.heap[g]? = some (.cells (sgC x p A c B d) 31 (0, 0))
theorem SB.next {g : Nat} {x : G} {p A : Option Addr} {c : Nat} {B : Option Addr} {d : Nat} {W W' : World} (h : SB g x p A c B d W) (hb : Below W.heap.size W W') : SB g x p A c B d W' := ⟨h.sp.below hb, blk_below h.h hb⟩
/-- .. and both segments. -/
structure KZ (w : World) (x : G) (A : Option Addr) (c : Nat) (B : Option Addr) (d : Nat) (y : D) (gS : Nat) (p A5 : Option Addr) (c5 : Nat) (B5 : Option Addr) (d5 : Nat) (g9 : Nat) (Y : G) (p9 A9 : Option Addr) (c9 : Nat) (B9 : Option Addr) (d9 : Nat) (W : World) : Prop where
 z : JZ w x A c B d y W
 s : SB gS x p A5 c5 B5 d5 W
 t : SB g9 Y p9 A9 c9 B9 d9 W
theorem KZ.next {w : World} {x : G} {A : Option Addr} {c : Nat} {B : Option Addr} {d : Nat} {y : D} {gS : Nat} {p A5 : Option Addr} {c5 : Nat} {B5 : Option Addr} {d5 : Nat} {g9 : Nat} {Y : G} {p9 A9 : Option Addr} {c9 : Nat} {B9 : Option Addr} {d9 : Nat} {W W' : World} (h : KZ w x A c B d y gS p A5 c5 B5 d5 g9 Y p9 A9 c9 B9 d9 W) (hb : Below W.heap.size W W') : KZ w x A c B d y gS p A5 c5 B5 d5 g9 Y p9 A9 c9 B9 d9 W' := ⟨h.z.next hb, h.s.next hb, h.t.next hb⟩
end Go.Proofs.YtjphmebhofkhcaaDoor.Seg
/- Segments: places, a cut of a text, marks' parts, and a segment's three parts. Conditions: texts of at most 2^40 bytes, spans and sites. -/
namespace Go.Proofs.YtjphmebhofkhcaaDoor.Seg
open Go.RowKit Go.Proofs.YtjphmebhofkhcaaDoorPl Go.Proofs.YtjphmebhofkhcaaDoorW.PrintWords Go.Proofs.YtjphmebhofkhcaaDoorW.PrintLast Go.Proofs.YtjphmebhofkhcaaDoorW.PrintMore Go.Proofs.YtjphmebhofkhcaaDoor.Rope Go.Proofs.YtjphmebhofkhcaaDoor.PSegAll Go.Proofs.YtjphmebhofkhcaaDoor.Pure
set_option linter.unusedVariables false
set_option linter.unusedSimpArgs false
attribute [local go_sem] max2_int min2_int max_two min_two
/-- How many letters from a place on. -/
def lenI (c a n : Int) : Int := if c - a < (if n < 0 then 0 else n) then c - a else (if n < 0 then 0 else n)
theorem len_in {c a n : Int} (h : a ≤ c) : 0 ≤ lenI c a n ∧ a + lenI c a n ≤ c := by unfold lenI; (repeat' split) <;> omega
theorem cut_rp {w : World} {p : Option Addr} {s : ByteArray} (a b : Int) (h : Rp w p s) :
  Calls Tryd.prog 53 #[.pointer p, .int .i64 a, .int .i64 b] w fun e w' => ∃ r, e = .returned (.pointer r) ∧ Rp w' r (cutT s a b) ∧ Below w.heap.size w w' := by
 obtain ⟨t1, cs, hi, hs⟩ := h
 refine (cut_is a b hi).mono ?_
 rintro e w' ⟨v, rfl, hv, hb⟩
 obtain ⟨r, rfl, hr⟩ := hv.rp (s := cutT s a b) (by unfold cutT; rw [ofL_data, lets_eq hi.g.letts hs])
 exact ⟨r, rfl, hr, hb⟩
set_option maxRecDepth 100000 in
set_option maxHeartbeats 2000000 in
theorem places_calls (x : G) (p A : Option Addr) (c : Nat) (B : Option Addr) (d : Nat) (a n : Int) (w : World) (hr : Rp w p x.f2) (hz : x.f2.size ≤ 1099511627776) :
  Calls Tryd.prog 51 #[.agg (sgC x p A c B d), .int .i64 a, .int .i64 n] w fun e w' => e = .returned (.tuple #[.int .i64 (clampI (cnt x.f2) a), .int .i64 (clampI (cnt x.f2) a + lenI (cnt x.f2) (clampI (cnt x.f2) a) n)]) ∧ Below w.heap.size w w' := by
 obtain ⟨cs, hl, h2⟩ : ∃ cs, Letts cs ∧ x.f2.data.toList = cs.flatten := by obtain ⟨t, cs, hi, hs⟩ := hr; exact ⟨cs, hi.g.letts, hs⟩
 have hin := cnt_in ((validD_iff _).2 ⟨cs, hl, h2⟩) hz
 have hcl := clamp_in (a := a) hin.1
 have hln := len_in (n := n) hcl.2
 obtain ⟨q, hq⟩ : ∃ q, q = clampI (cnt x.f2) a := ⟨_, rfl⟩
 obtain ⟨m, hm⟩ : ∃ m, m = cnt x.f2 := ⟨_, rfl⟩
 rw [← hm] at hin hcl hln hq ⊢
 rw [← hq] at hcl hln ⊢
 obtain ⟨e1, he1⟩ : ∃ z, (if n < 0 then (0 : Int) else n) = z := ⟨_, rfl⟩
 obtain ⟨e2, he2⟩ : ∃ z, (if m - q < e1 then m - q else e1) = z := ⟨_, rfl⟩
 have el : lenI m q n = e2 := by unfold lenI; rw [he1]; exact he2
 rw [el] at hln ⊢
 have wa_ : IntKind.i64.wrap (m - q) = m - q := IntWalk.i64_in _ (by omega)
 have wb_ : IntKind.i64.wrap (q + e2) = q + e2 := IntWalk.i64_in _ (by omega)
 have HN := Lib.hid hm
 have HQ := Lib.hid hq
 have HR := Lib.hid hr
 clear hr hm hq el hl h2 hin hcl hln
 go_enter Tryd.func51, Tryd.ntmps51
 go_upto_region 2 with (go_at_call 42; refine (clampG_calls x p A c B d a _ (HR.out.below (below_alloc (Below.refl _ _) _)) hz).mono ?_; rw [← HN.out, ← HQ.out]; rintro e w1 ⟨rfl, hb1⟩; have B1 := Lib.hid (below_step (below_alloc (Below.refl _ _) _) hb1); have X1 := Lib.hid (blk_below (blk_newS rfl) hb1); clear hb1)
 have x2 := (blk_cell X1.out 2).trans rfl
 go_wp2_with fail
 (go_at_call 36; refine (len_rpb (p := p) (s := x.f2) (HR.out.below B1.out) hz).mono ?_; rw [← HN.out]; rintro e w2 ⟨rfl, hb2⟩)
 go_wp2
 refine bodyPost_ret (results_list (rs := [.tmp 6, .tmp 7]) rfl (by simp) (.tmp (.tmp .nil))) rfl ?_
 exact ⟨rfl, below_step B1.out hb2⟩
/-- A pair of rows. -/
abbrev mG (xs : List S67) (ys : List S70) : G := ⟨0, 0, ⟨#[]⟩, xs, ys⟩
theorem part_ev (a : Int) (xs : List S67) (ys : List S70) (hx : xs.length ≤ 1099511627776) (hy : ys.length ≤ 1099511627776) : Go.Proofs.YtjphmebhofkhcaaDoorW.PrintWords.Ev (fun k => marks_Part.f k xs ys a) (partA a xs, sitesA a ys, partB a xs, sitesB a ys) := marks_Part_ev a xs ys (by omega) (by omega)
theorem part4_calls (A : Option Addr) (c : Nat) (xs : List S67) (B : Option Addr) (d : Nat) (ys : List S70) (a : Int) (w : World) (h : TR w (mG xs ys) A c B d) (hx : xs.length ≤ 1099511627776) (hy : ys.length ≤ 1099511627776) :
  Calls Tryd.prog 52 #[.agg #[.slice A xs.length c, .slice B ys.length d], .int .i64 a] w fun e w' => ∃ A1 c1 B1 d1 A2 c2 B2 d2, e = .returned (.tuple #[.agg #[.slice A1 (partA a xs).length c1, .slice B1 (sitesA a ys).length d1], .agg #[.slice A2 (partB a xs).length c2, .slice B2 (sitesB a ys).length d2]]) ∧ TR w' (mG (partA a xs) (sitesA a ys)) A1 c1 B1 d1 ∧ TR w' (mG (partB a xs) (sitesB a ys)) A2 c2 B2 d2 ∧ Below w.heap.size w w' := by
 obtain ⟨k, hk⟩ := Go.Proofs.YtjphmebhofkhcaaDoorW.PrintWords.Ev.rounds (part_ev a xs ys hx hy)
 refine (marks_Part.calls k A c xs B d ys a _ _ _ _ w h.r3 h.c3 h.r4 h.c4 hk).mono ?_
 rintro e w' ⟨v0, v1, v2, v3, rfl, r0, r1, r2, r3, hb⟩
 obtain ⟨A1, c1, e0⟩ := Kd.R_slice r0
 obtain ⟨B1, d1, e1⟩ := Kd.R_slice r1
 obtain ⟨A2, c2, e2⟩ := Kd.R_slice r2
 obtain ⟨B2, d2, e3⟩ := Kd.R_slice r3
 subst e0 e1 e2 e3
 exact ⟨A1, c1, B1, d1, A2, c2, B2, d2, rfl, TR.of (x := mG (partA a xs) (sitesA a ys)) r0 r1, TR.of (x := mG (partB a xs) (sitesB a ys)) r2 r3, hb⟩
/-- What a walk over a segment with three to come keeps. -/
structure P0 (w : World) (x : G) (p A : Option Addr) (c : Nat) (B : Option Addr) (d : Nat) (W : World) : Prop where
 b : Below w.heap.size w W
 h6 : W.heap[w.heap.size]? = some (.cells (sgC x p A c B d) 31 (0, 0))
 h12 : W.heap[w.heap.size + 1]? = some (.cells zC 31 (0, 0))
 h13 : W.heap[w.heap.size + 1 + 1]? = some (.cells zC 31 (0, 0))
 h14 : W.heap[w.heap.size + 1 + 1 + 1]? = some (.cells zC 31 (0, 0))
theorem P0.next {w W W' : World} {x : G} {p A : Option Addr} {c : Nat} {B : Option Addr} {d : Nat} (h : P0 w x p A c B d W) (hb : Below W.heap.size W W') : P0 w x p A c B d W' := ⟨below_step h.b hb, blk_below h.h6 hb, blk_below h.h12 hb, blk_below h.h13 hb, blk_below h.h14 hb⟩
theorem P0.mk4 {w : World} {x : G} {p A : Option Addr} {c : Nat} {B : Option Addr} {d : Nat} : P0 w x p A c B d ((((w.alloc (.cells (sgC x p A c B d) 31 (0, 0))).alloc (.cells zC 31 (0, 0))).alloc (.cells zC 31 (0, 0))).alloc (.cells zC 31 (0, 0))) :=
 ⟨below_alloc (below_alloc (below_alloc (below_alloc (Below.refl _ _) _) _) _) _, blk_below (blk_new w _) (below_alloc (below_alloc (below_alloc (Below.refl _ _) _) _) _), blk_below (blk_newS (by simp)) (below_alloc (below_alloc (Below.refl _ _) _) _), blk_below (blk_newS (by simp)) (below_alloc (Below.refl _ _) _), blk_newS (by simp)⟩
/-- What the last region's loads read, and what its stores leave. -/
structure P4 (w : World) (x : G) (p A : Option Addr) (c : Nat) (B : Option Addr) (d : Nat) (g g' : Nat) (m m' : Array Value) (W : World) : Prop where
 b : Below w.heap.size w W
 h6 : W.heap[w.heap.size]? = some (.cells (sgC x p A c B d) 31 (0, 0))
 h17 : W.heap[g]? = some (.cells m 29 (0, 0))
 h20 : W.heap[g']? = some (.cells m' 29 (0, 0))
theorem P4.next {w W W' : World} {x : G} {p A : Option Addr} {c : Nat} {B : Option Addr} {d g g' : Nat} {m m' : Array Value} (h : P4 w x p A c B d g g' m m' W) (hb : Below W.heap.size W W') : P4 w x p A c B d g g' m m' W' := ⟨below_step h.b hb, blk_below h.h6 hb, blk_below h.h17 hb, blk_below h.h20 hb⟩
theorem P4.set {w W : World} {x : G} {p A : Option Addr} {c : Nat} {B : Option Addr} {d g g' : Nat} {m m' : Array Value} (h : P4 w x p A c B d g g' m m' W) {k : Nat} (h1 : w.heap.size < k) (h2 : k < g) (h3 : k < g') (j : Nat) (u : Value) : P4 w x p A c B d g g' m m' (W.setCell ⟨k, j, none⟩ u) :=
 ⟨below_set h.b (Nat.le_of_lt h1), blk_far h.h6 (Nat.ne_of_lt h1) _, blk_far h.h17 (Nat.ne_of_gt h2) _, blk_far h.h20 (Nat.ne_of_gt h3) _⟩
abbrev PS (w : World) (x : G) (p A : Option Addr) (c : Nat) (B : Option Addr) (d : Nat) (g g' : Nat) (v0 v1 v0' v1' : Value) (W : World) : Prop :=
 W.cell? ⟨w.heap.size, 0, none⟩ = some (.int .i64 x.f0) ∧ W.cell? ⟨w.heap.size, 1, none⟩ = some (.int .i64 x.f1) ∧ W.cell? ⟨w.heap.size, 2, none⟩ = some (.pointer p) ∧ W.cell? ⟨g, 0, none⟩ = some v0 ∧ W.cell? ⟨g, 1, none⟩ = some v1 ∧ W.cell? ⟨g', 0, none⟩ = some v0' ∧ W.cell? ⟨g', 1, none⟩ = some v1' ∧ P4 w x p A c B d g g' #[v0, v1] #[v0', v1'] W
theorem PS.of {w W : World} {x : G} {p A : Option Addr} {c : Nat} {B : Option Addr} {d g g' : Nat} {v0 v1 v0' v1' : Value} (h : P4 w x p A c B d g g' #[v0, v1] #[v0', v1'] W) : PS w x p A c B d g g' v0 v1 v0' v1' W := ⟨(blk_cell h.h6 0).trans rfl, (blk_cell h.h6 1).trans rfl, (blk_cell h.h6 2).trans rfl, (blk_cell h.h17 0).trans rfl, (blk_cell h.h17 1).trans rfl, (blk_cell h.h20 0).trans rfl, (blk_cell h.h20 1).trans rfl, h⟩
theorem P4.five {w W : World} {x : G} {p A : Option Addr} {c : Nat} {B : Option Addr} {d g g' : Nat} {m m' : Array Value} (h : P4 w x p A c B d g g' m m' W) {k : Nat} (h1 : w.heap.size < k) (h2 : k < g) (h3 : k < g') (u0 u1 u2 u3 u4 : Value) :
  P4 w x p A c B d g g' m m' (((((W.setCell ⟨k, 0, none⟩ u0).setCell ⟨k, 1, none⟩ u1).setCell ⟨k, 2, none⟩ u2).setCell ⟨k, 3, none⟩ u3).setCell ⟨k, 4, none⟩ u4) := ((((h.set h1 h2 h3 0 u0).set h1 h2 h3 1 u1).set h1 h2 h3 2 u2).set h1 h2 h3 3 u3).set h1 h2 h3 4 u4
/-- A segment's three parts. -/
noncomputable def pt1 (x : G) (a : Int) : G := ⟨x.f0, x.f1, cutT x.f2 0 a, partA a x.f3, sitesA a x.f4⟩
noncomputable def pt2 (x : G) (a b m l : Int) : G := ⟨m, l, cutT x.f2 a b, [], []⟩
noncomputable def pt3 (x : G) (a b t : Int) : G := ⟨t, x.f1, cutT x.f2 b (cnt x.f2), partB (b - a) (partB a x.f3), sitesB (b - a) (sitesB a x.f4)⟩
theorem partB_length (a : Int) (xs : List S67) : (partB a xs).length ≤ xs.length := by
 have : ∀ (l o : List S67), (l.foldl (fun o s => addL o ⟨s.f0, mx (wrap64 (s.f1 - a)) 0, wrap64 (s.f2 - a)⟩) o).length ≤ o.length + l.length := by
  intro l
  induction l with
  | nil => intro o; simp
  | cons s r ih =>
   intro o
   rw [List.foldl_cons]
   refine Nat.le_trans (ih _) ?_
   have := addL_length o ⟨s.f0, mx (wrap64 (s.f1 - a)) 0, wrap64 (s.f2 - a)⟩
   simp only [List.length_cons]
   omega
 simpa [partB] using this xs []
theorem sitesB_length (a : Int) (ys : List S70) : (sitesB a ys).length ≤ ys.length := by
 unfold sitesB
 rw [List.length_map]
 exact List.length_filter_le _ _
/-- Three segments laid into three blocks. -/
theorem lay3 {w W : World} {k1 k2 k3 : Nat} {y1 : G} {p1 A1 : Option Addr} {c1 : Nat} {B1 : Option Addr} {d1 : Nat} {y2 : G} {p2 A2 : Option Addr} {c2 : Nat} {B2 : Option Addr} {d2 : Nat} {y3 : G} {p3 A3 : Option Addr} {c3 : Nat} {B3 : Option Addr} {d3 : Nat} (hb : Below w.heap.size w W) (l1 : w.heap.size ≤ k1) (l2 : w.heap.size ≤ k2) (l3 : w.heap.size ≤ k3) (n12 : k1 ≠ k2) (n13 : k1 ≠ k3) (n23 : k2 ≠ k3)
  (h1 : SP W y1 p1 A1 c1 B1 d1) (h2 : SP W y2 p2 A2 c2 B2 d2) (h3 : SP W y3 p3 A3 c3 B3 d3) (g1 : W.heap[k1]? = some (.cells zC 31 (0, 0))) (g2 : W.heap[k2]? = some (.cells zC 31 (0, 0))) (g3 : W.heap[k3]? = some (.cells zC 31 (0, 0))) :
  (SP (lay5 (lay5 (lay5 W k1 y1 p1 A1 c1 B1 d1) k2 y2 p2 A2 c2 B2 d2) k3 y3 p3 A3 c3 B3 d3) y1 p1 A1 c1 B1 d1 ∧ SP (lay5 (lay5 (lay5 W k1 y1 p1 A1 c1 B1 d1) k2 y2 p2 A2 c2 B2 d2) k3 y3 p3 A3 c3 B3 d3) y2 p2 A2 c2 B2 d2 ∧ SP (lay5 (lay5 (lay5 W k1 y1 p1 A1 c1 B1 d1) k2 y2 p2 A2 c2 B2 d2) k3 y3 p3 A3 c3 B3 d3) y3 p3 A3 c3 B3 d3) ∧ (lay5 (lay5 (lay5 W k1 y1 p1 A1 c1 B1 d1) k2 y2 p2 A2 c2 B2 d2) k3 y3 p3 A3 c3 B3 d3).heap[k1]? = some (.cells (sgC y1 p1 A1 c1 B1 d1) 31 (0, 0)) ∧ (lay5 (lay5 (lay5 W k1 y1 p1 A1 c1 B1 d1) k2 y2 p2 A2 c2 B2 d2) k3 y3 p3 A3 c3 B3 d3).heap[k2]? = some (.cells (sgC y2 p2 A2 c2 B2 d2) 31 (0, 0)) ∧ (lay5 (lay5 (lay5 W k1 y1 p1 A1 c1 B1 d1) k2 y2 p2 A2 c2 B2 d2) k3 y3 p3 A3 c3 B3 d3).heap[k3]? = some (.cells (sgC y3 p3 A3 c3 B3 d3) 31 (0, 0)) ∧ Below w.heap.size w (lay5 (lay5 (lay5 W k1 y1 p1 A1 c1 B1 d1) k2 y2 p2 A2 c2 B2 d2) k3 y3 p3 A3 c3 B3 d3) := by
 have e2 := (lay5_far (W := W) (y := y1) (p := p1) (A := A1) (c := c1) (B := B1) (d := d1) n12).trans g2
 have e3 := (lay5_far (W := W) (y := y1) (p := p1) (A := A1) (c := c1) (B := B1) (d := d1) n13).trans g3
 have e3' := (lay5_far (W := lay5 W k1 y1 p1 A1 c1 B1 d1) (y := y2) (p := p2) (A := A2) (c := c2) (B := B2) (d := d2) n23).trans e3
 refine ⟨⟨(lay5_sp (lay5_sp (lay5_sp h1 g1).1 e2).1 e3').1, (lay5_sp (lay5_sp (lay5_sp h2 g1).1 e2).1 e3').1, (lay5_sp (lay5_sp (lay5_sp h3 g1).1 e2).1 e3').1⟩, ?_, ?_, (lay5_sp (lay5_sp (lay5_sp h1 g1).1 e2).1 e3').2, lay5_below (lay5_below (lay5_below hb l1) l2) l3⟩
 ·exact (lay5_far n13.symm).trans ((lay5_far n12.symm).trans (lay5_sp h1 g1).2)
 ·exact (lay5_far n23.symm).trans (lay5_sp (lay5_sp h1 g1).1 e2).2
theorem TR.with {w : World} {x : G} {xs : List S67} {ys : List S70} {A : Option Addr} {c : Nat} {B : Option Addr} {d : Nat} (h : TR w (mG xs ys) A c B d) (h3 : xs = x.f3) (h4 : ys = x.f4) : TR w x A c B d := by
 subst h3 h4
 exact ⟨⟨h.c3, h.c4, h.r3, h.r4⟩, h.t3, h.t4⟩
theorem TR.pair {w : World} {x : G} {A : Option Addr} {c : Nat} {B : Option Addr} {d : Nat} (h : TR w x A c B d) : TR w (mG x.f3 x.f4) A c B d := ⟨⟨h.c3, h.c4, h.r3, h.r4⟩, h.t3, h.t4⟩
set_option maxRecDepth 1000000 in
set_option maxHeartbeats 8000000 in
theorem segPart_calls (x : G) (p A : Option Addr) (c : Nat) (B : Option Addr) (d : Nat) (at_ n mi la lb : Int) (w : World) (h : SP w x p A c B d) (hz : x.f2.size ≤ 1099511627776) (h3 : x.f3.length ≤ 1099511627776) (h4 : x.f4.length ≤ 1099511627776) {a b : Int} (ha : a = clampI (cnt x.f2) at_) (hb_ : b = a + lenI (cnt x.f2) a n) :
  Calls Tryd.prog 20 #[.agg (sgC x p A c B d), .int .i64 at_, .int .i64 n, .int .i64 mi, .int .i64 la, .int .i64 lb] w fun e w' => ∃ p1 A1 c1 B1 d1 p2 p3 A3 c3 B3 d3, e = .returned (.tuple #[.agg (sgC (pt1 x a) p1 A1 c1 B1 d1), .agg (sgC (pt2 x a b mi lb) p2 none 0 none 0), .agg (sgC (pt3 x a b la) p3 A3 c3 B3 d3)]) ∧ SP w' (pt1 x a) p1 A1 c1 B1 d1 ∧ SP w' (pt2 x a b mi lb) p2 none 0 none 0 ∧ SP w' (pt3 x a b la) p3 A3 c3 B3 d3 ∧ Below w.heap.size w w' := by
 obtain ⟨cs, hl, h2⟩ : ∃ cs, Letts cs ∧ x.f2.data.toList = cs.flatten := by obtain ⟨t, cs, hi, hs⟩ := h.rp; exact ⟨cs, hi.g.letts, hs⟩
 have hin := cnt_in ((validD_iff _).2 ⟨cs, hl, h2⟩) hz
 have hcl := clamp_in (a := at_) hin.1
 rw [← ha] at hcl
 have hln := len_in (n := n) hcl.2
 have wa_ : IntKind.i64.wrap (b - a) = b - a := IntWalk.i64_in _ (by omega)
 have HAB := Lib.hid (And.intro ha hb_)
 have HS := Lib.hid h
 clear h cs hl h2 hin hcl hln ha hb_
 have HPB := Lib.hid (And.intro (partB_length a x.f3) (sitesB_length a x.f4))
 go_enter Tryd.func20, Tryd.ntmps20
 go_upto_region 1 with fail
 refine gen2 (φ := fun W => Code.wp _ _ _ _ W) (P := fun W => P0 w x p A c B d W) P0.mk4 ?_
 rintro V hV
 have ZV := Lib.hid hV
 have x0 := (blk_cell hV.h6 0).trans rfl
 have x1 := (blk_cell hV.h6 1).trans rfl
 have x2 := (blk_cell hV.h6 2).trans rfl
 have x3 := (blk_cell hV.h6 3).trans rfl
 have x4 := (blk_cell hV.h6 4).trans rfl
 clear hV
 go_upto_region 2 with (go_at_call 51; refine (places_calls x p A c B d at_ n _ (HS.out.rp.below ZV.out.b) hz).mono ?_; rw [← HAB.out.1, ← HAB.out.2]; rintro e w1 ⟨rfl, hb1⟩; have Z1 := Lib.hid (ZV.out.next hb1); clear hb1)
 clear x0 x1 x2 x3 x4
 have x3 := (blk_cell Z1.out.h6 3).trans rfl
 have x4 := (blk_cell Z1.out.h6 4).trans rfl
 have TX := Lib.hid (HS.out.toTR.below Z1.out.b).pair
 go_upto_region 3 with (go_at_call 52; refine (part4_calls A c x.f3 B d x.f4 a _ TX.out h3 h4).mono ?_; rintro e w2 ⟨A1, c1, B1, d1, A2, c2, B2, d2, rfl, ht1, ht2, hb2⟩; have Z2 := Lib.hid (Z1.out.next hb2); have T1 := Lib.hid ht1; have T2 := Lib.hid ht2; clear hb2 ht1 ht2)
 have G3 := Lib.hid (blk_lt Z2.out.h14)
 refine gen2 (φ := fun W => Code.wp _ _ _ _ W) (P := fun W => P0 w x p A c B d W ∧ TR W (mG (partA a x.f3) (sitesA a x.f4)) A1 c1 B1 d1 ∧ TR W (mG (partB a x.f3) (sitesB a x.f4)) A2 c2 B2 d2 ∧ W.heap[w2.heap.size]? = some (.cells #[.slice A1 (partA a x.f3).length c1, .slice B1 (sitesA a x.f4).length d1] 29 (0, 0)) ∧ W.heap[w2.heap.size + 1]? = some (.cells #[.slice A2 (partB a x.f3).length c2, .slice B2 (sitesB a x.f4).length d2] 29 (0, 0)))
  ⟨Z2.out.next (below_alloc (below_alloc (Below.refl _ _) _) _), T1.out.below (below_alloc (below_alloc (Below.refl _ _) _) _), T2.out.below (below_alloc (below_alloc (Below.refl _ _) _) _), blk_below (blk_new w2 _) (below_alloc (Below.refl _ _) _), blk_newS (by simp)⟩ ?_
 rintro V3 ⟨hz3, ht1, ht2, h17, h18⟩
 have Z3 := Lib.hid hz3
 have TA := Lib.hid ht1
 have TB := Lib.hid ht2
 have X17 := Lib.hid h17
 have m0 := (blk_cell h18 0).trans rfl
 have m1 := (blk_cell h18 1).trans rfl
 clear hz3 ht1 ht2 h17 h18 Z2 T1 T2 TX x3 x4 Z1 ZV
 generalize w2.heap.size = g17 at *
 clear w2 w1 V
 generalize hxb : partB a x.f3 = xb at *
 generalize hyb : sitesB a x.f4 = yb at *
 have HXB := Lib.hid (And.intro hxb hyb)
 clear hxb hyb
 go_upto_region 4 with (go_at_call 52; refine (part4_calls A2 c2 xb B2 d2 yb (b - a) _ TB.out (by have := HPB.out.1; omega) (by have := HPB.out.2; omega)).mono ?_; rintro e w2 ⟨A4, c4, B4, d4, A5, c5, B5, d5, rfl, ht1, ht2, hb2⟩; have Z2 := Lib.hid (Z3.out.next hb2); have T2 := Lib.hid ht2; have T1 := Lib.hid (TA.out.below hb2); have Y17 := Lib.hid (blk_below X17.out hb2); clear hb2 ht1 ht2)
 have G4 := Lib.hid (blk_lt Z2.out.h14)
 refine gen2 (φ := fun W => Code.wp _ _ _ _ W) (P := fun W => P0 w x p A c B d W ∧ TR W (mG (partA a x.f3) (sitesA a x.f4)) A1 c1 B1 d1 ∧ TR W (mG (partB (b - a) xb) (sitesB (b - a) yb)) A5 c5 B5 d5 ∧ W.heap[g17]? = some (.cells #[.slice A1 (partA a x.f3).length c1, .slice B1 (sitesA a x.f4).length d1] 29 (0, 0)) ∧ W.heap[w2.heap.size + 1]? = some (.cells #[.slice A5 (partB (b - a) xb).length c5, .slice B5 (sitesB (b - a) yb).length d5] 29 (0, 0)))
  ⟨Z2.out.next (below_alloc (below_alloc (Below.refl _ _) _) _), T1.out.below (below_alloc (below_alloc (Below.refl _ _) _) _), T2.out.below (below_alloc (below_alloc (Below.refl _ _) _) _), blk_below Y17.out (below_alloc (below_alloc (Below.refl _ _) _) _), blk_newS (by simp)⟩ ?_
 rintro V ⟨hz3, ht1, ht2, h17, h20⟩
 have ZV := Lib.hid hz3
 have SA := Lib.hid ht1
 have SB := Lib.hid ht2
 have PV := Lib.hid (show P4 w x p A c B d g17 (w2.heap.size + 1) _ _ V from ⟨hz3.b, hz3.h6, h17, h20⟩)
 have GG := Lib.hid (show w.heap.size + 1 + 1 + 1 < w2.heap.size + 1 from Nat.lt_succ_of_lt G4.out)
 clear hz3 ht1 ht2 h17 h20 Z2 T1 T2 Z3 TA TB X17 Y17 G4 m0 m1
 generalize w2.heap.size = g19 at *
 generalize g19 + 1 = g20 at *
 clear w2 V3
 generalize hxa : partA a x.f3 = xa at *
 generalize hya : sitesA a x.f4 = ya at *
 generalize hxz : partB (b - a) xb = xz at *
 generalize hyz : sitesB (b - a) yb = yz at *
 have HXA := Lib.hid (And.intro hxa hya)
 have HXZ := Lib.hid (And.intro hxz hyz)
 clear hxa hya hxz hyz
 generalize hl1 : xa.length = la1 at *
 generalize hl2 : ya.length = la2 at *
 generalize hl3 : xz.length = lz1 at *
 generalize hl4 : yz.length = lz2 at *
 have HL := Lib.hid (And.intro hl1 (And.intro hl2 (And.intro hl3 hl4)))
 clear hl1 hl2 hl3 hl4
 have PD := Lib.hid (show P4 w x p A c B d g17 g20 _ _ V.drew from PV.out.next (by with_reducible repeat (first | exact Below.refl _ _ | apply pw_below_drewN | apply Below.drew)))
 refine wp_region_noPanic ?_
 refine wp_region_held_drew (S := (fun w' => PS w x p A c B d g17 g20 (.slice A1 la1 c1) (.slice B1 la2 d1) (.slice A5 lz1 c5) (.slice B5 lz2 d5) w')) ?hm_r ?hS_r (fun hHeld => ?_)
 case hm_r => kernel_rfl
 case hS_r => exact PS.of PD.out
 refine wpAnyH_take (i := 0) (oi := ?or0) (v := ?vr0) ?hi_r0 ?k1_r0 ?k2_r0 ?k3_r0 (fun _ _ _ h => h) (Or.inl ⟨?g_r0, ?y_r0⟩) (by assumption) ?r_r0
 case hi_r0 => (simp only [List.getElem?_toArray, List.getElem?_cons_succ, List.getElem?_cons_zero]; rfl)
 case k1_r0 => kernel_rfl
 case k2_r0 => kernel_rfl
 case k3_r0 => kernel_rfl
 case g_r0 => rfl
 case y_r0 => (intro w hSw; (try dsimp only at hSw); first | (go_simp; done) | (go_simp; with_reducible rfl))
 (try simp only [Act.put, List.setIfInBounds_toArray, List.set_cons_zero, List.set_cons_succ])
 refine wpAnyH_take (i := 1) (oi := ?or1) (v := ?vr1) ?hi_r1 ?k1_r1 ?k2_r1 ?k3_r1 (fun _ _ _ h => h) (Or.inl ⟨?g_r1, ?y_r1⟩) (by assumption) ?r_r1
 case hi_r1 => (simp only [List.getElem?_toArray, List.getElem?_cons_succ, List.getElem?_cons_zero]; rfl)
 case k1_r1 => kernel_rfl
 case k2_r1 => kernel_rfl
 case k3_r1 => kernel_rfl
 case g_r1 => rfl
 case y_r1 => (intro w hSw; (try dsimp only at hSw); first | (go_simp; done) | (go_simp; with_reducible rfl))
 (try simp only [Act.put, List.setIfInBounds_toArray, List.set_cons_zero, List.set_cons_succ])
 refine wpAnyH_take (i := 2) (oi := ?or2) (v := ?vr2) ?hi_r2 ?k1_r2 ?k2_r2 ?k3_r2 (fun _ _ _ h => h) (Or.inl ⟨?g_r2, ?y_r2⟩) (by assumption) ?r_r2
 case hi_r2 => (simp only [List.getElem?_toArray, List.getElem?_cons_succ, List.getElem?_cons_zero]; rfl)
 case k1_r2 => kernel_rfl
 case k2_r2 => kernel_rfl
 case k3_r2 => kernel_rfl
 case g_r2 => rfl
 case y_r2 => (intro w hSw; (try dsimp only at hSw); first | (go_simp; done) | (go_simp; with_reducible rfl))
 (try simp only [Act.put, List.setIfInBounds_toArray, List.set_cons_zero, List.set_cons_succ])
 refine wpAnyH_take (i := 3) (oi := ?or3) (v := ?vr3) ?hi_r3 ?k1_r3 ?k2_r3 ?k3_r3 (fun _ _ _ h => h) (Or.inl ⟨?g_r3, ?y_r3⟩) (by assumption) ?r_r3
 case hi_r3 => (simp only [List.getElem?_toArray, List.getElem?_cons_succ, List.getElem?_cons_zero]; rfl)
 case k1_r3 => kernel_rfl
 case k2_r3 => kernel_rfl
 case k3_r3 => kernel_rfl
 case g_r3 => rfl
 case y_r3 => (intro w hSw; (try dsimp only at hSw); first | (go_simp; done) | (go_simp; with_reducible rfl))
 (try simp only [Act.put, List.setIfInBounds_toArray, List.set_cons_zero, List.set_cons_succ])
 refine wpAnyH_take (i := 4) (oi := ?or4) (v := ?vr4) ?hi_r4 ?k1_r4 ?k2_r4 ?k3_r4 (fun _ _ _ h => h) (Or.inl ⟨?g_r4, ?y_r4⟩) (by assumption) ?r_r4
 case hi_r4 => (simp only [List.getElem?_toArray, List.getElem?_cons_succ, List.getElem?_cons_zero]; rfl)
 case k1_r4 => kernel_rfl
 case k2_r4 => kernel_rfl
 case k3_r4 => kernel_rfl
 case g_r4 => rfl
 case y_r4 => (intro w hSw; (try dsimp only at hSw); first | (go_simp; done) | (go_simp; with_reducible rfl))
 (try simp only [Act.put, List.setIfInBounds_toArray, List.set_cons_zero, List.set_cons_succ])
 refine wpAnyH_take (i := 5) (oi := ?or5) (v := ?vr5) ?hi_r5 ?k1_r5 ?k2_r5 ?k3_r5 (fun _ _ _ h => h) (Or.inl ⟨?g_r5, ?y_r5⟩) (by assumption) ?r_r5
 case hi_r5 => (simp only [List.getElem?_toArray, List.getElem?_cons_succ, List.getElem?_cons_zero]; rfl)
 case k1_r5 => kernel_rfl
 case k2_r5 => kernel_rfl
 case k3_r5 => kernel_rfl
 case g_r5 => rfl
 case y_r5 => (intro w hSw; (try dsimp only at hSw); first | (go_simp; done) | (go_simp; with_reducible rfl))
 (try simp only [Act.put, List.setIfInBounds_toArray, List.set_cons_zero, List.set_cons_succ])
 refine wpAnyH_take (i := 6) (oi := ?or6) (v := ?vr6) ?hi_r6 ?k1_r6 ?k2_r6 ?k3_r6 (fun _ _ _ h => h) (Or.inl ⟨?g_r6, ?y_r6⟩) (by assumption) ?r_r6
 case hi_r6 => (simp only [List.getElem?_toArray, List.getElem?_cons_succ, List.getElem?_cons_zero]; rfl)
 case k1_r6 => kernel_rfl
 case k2_r6 => kernel_rfl
 case k3_r6 => kernel_rfl
 case g_r6 => rfl
 case y_r6 => (intro w hSw; (try dsimp only at hSw); first | (go_simp; done) | (go_simp; with_reducible rfl))
 (try simp only [Act.put, List.setIfInBounds_toArray, List.set_cons_zero, List.set_cons_succ])
 refine wpAnyH_take (i := 8) (oi := ?or8) (v := ?vr8) ?hi_r8 ?k1_r8 ?k2_r8 ?k3_r8 (fun _ _ _ h => h) (Or.inl ⟨?g_r8, ?y_r8⟩) (by assumption) ?r_r8
 case hi_r8 => (simp only [List.getElem?_toArray, List.getElem?_cons_succ, List.getElem?_cons_zero]; rfl)
 case k1_r8 => kernel_rfl
 case k2_r8 => kernel_rfl
 case k3_r8 => kernel_rfl
 case g_r8 => rfl
 case y_r8 => (intro w hSw; (try dsimp only at hSw); first | (go_simp; done) | (go_simp; with_reducible rfl))
 (try simp only [Act.put, List.setIfInBounds_toArray, List.set_cons_zero, List.set_cons_succ])
 refine wpAnyH_take (i := 10) (oi := ?or10) (v := ?vr10) ?hi_r10 ?k1_r10 ?k2_r10 ?k3_r10 (fun _ _ _ h => h) (Or.inl ⟨?g_r10, ?y_r10⟩) (by assumption) ?r_r10
 case hi_r10 => (simp only [List.getElem?_toArray, List.getElem?_cons_succ, List.getElem?_cons_zero]; rfl)
 case k1_r10 => kernel_rfl
 case k2_r10 => kernel_rfl
 case k3_r10 => kernel_rfl
 case g_r10 => rfl
 case y_r10 => (intro w hSw; (try dsimp only at hSw); first | (go_simp; done) | (go_simp; with_reducible rfl))
 (try simp only [Act.put, List.setIfInBounds_toArray, List.set_cons_zero, List.set_cons_succ])
 refine wpAnyH_take (i := 11) (oi := ?or11) (v := ?vr11) ?hi_r11 ?k1_r11 ?k2_r11 ?k3_r11 (fun _ _ _ h => h) (Or.inl ⟨?g_r11, ?y_r11⟩) (by assumption) ?r_r11
 case hi_r11 => (simp only [List.getElem?_toArray, List.getElem?_cons_succ, List.getElem?_cons_zero]; rfl)
 case k1_r11 => kernel_rfl
 case k2_r11 => kernel_rfl
 case k3_r11 => kernel_rfl
 case g_r11 => rfl
 case y_r11 => (intro w hSw; (try dsimp only at hSw); first | (go_simp; done) | (go_simp; with_reducible rfl))
 (try simp only [Act.put, List.setIfInBounds_toArray, List.set_cons_zero, List.set_cons_succ])
 refine wpAnyH_take (i := 12) (oi := ?or12) (v := ?vr12) ?hi_r12 ?k1_r12 ?k2_r12 ?k3_r12 (fun _ _ _ h => h) (Or.inl ⟨?g_r12, ?y_r12⟩) (by assumption) ?r_r12
 case hi_r12 => (simp only [List.getElem?_toArray, List.getElem?_cons_succ, List.getElem?_cons_zero]; rfl)
 case k1_r12 => kernel_rfl
 case k2_r12 => kernel_rfl
 case k3_r12 => kernel_rfl
 case g_r12 => rfl
 case y_r12 => (intro w hSw; (try dsimp only at hSw); first | (go_simp; done) | (go_simp; with_reducible rfl))
 (try simp only [Act.put, List.setIfInBounds_toArray, List.set_cons_zero, List.set_cons_succ])
 refine wpAnyH_take (i := 13) (oi := ?or13) (v := ?vr13) ?hi_r13 ?k1_r13 ?k2_r13 ?k3_r13 (fun _ _ _ h => h) (Or.inl ⟨?g_r13, ?y_r13⟩) (by assumption) ?r_r13
 case hi_r13 => (simp only [List.getElem?_toArray, List.getElem?_cons_succ, List.getElem?_cons_zero]; rfl)
 case k1_r13 => kernel_rfl
 case k2_r13 => kernel_rfl
 case k3_r13 => kernel_rfl
 case g_r13 => rfl
 case y_r13 => (intro w hSw; (try dsimp only at hSw); first | (go_simp; done) | (go_simp; with_reducible rfl))
 (try simp only [Act.put, List.setIfInBounds_toArray, List.set_cons_zero, List.set_cons_succ])
 refine wpAnyH_take (i := 14) (oi := ?or14) (v := ?vr14) ?hi_r14 ?k1_r14 ?k2_r14 ?k3_r14 (fun _ _ _ h => h) (Or.inl ⟨?g_r14, ?y_r14⟩) (by assumption) ?r_r14
 case hi_r14 => (simp only [List.getElem?_toArray, List.getElem?_cons_succ, List.getElem?_cons_zero]; rfl)
 case k1_r14 => kernel_rfl
 case k2_r14 => kernel_rfl
 case k3_r14 => kernel_rfl
 case g_r14 => rfl
 case y_r14 => (intro w hSw; (try dsimp only at hSw); first | (go_simp; done) | (go_simp; with_reducible rfl))
 (try simp only [Act.put, List.setIfInBounds_toArray, List.set_cons_zero, List.set_cons_succ])
 refine wpAnyH_take (i := 15) (oi := ?or15) (v := ?vr15) ?hi_r15 ?k1_r15 ?k2_r15 ?k3_r15 (fun _ _ _ h => h) (Or.inl ⟨?g_r15, ?y_r15⟩) (by assumption) ?r_r15
 case hi_r15 => (simp only [List.getElem?_toArray, List.getElem?_cons_succ, List.getElem?_cons_zero]; rfl)
 case k1_r15 => kernel_rfl
 case k2_r15 => kernel_rfl
 case k3_r15 => kernel_rfl
 case g_r15 => rfl
 case y_r15 => (intro w hSw; (try dsimp only at hSw); first | (go_simp; done) | (go_simp; with_reducible rfl))
 (try simp only [Act.put, List.setIfInBounds_toArray, List.set_cons_zero, List.set_cons_succ])
 refine wpAnyH_take (i := 18) (oi := ?or18) (v := ?vr18) ?hi_r18 ?k1_r18 ?k2_r18 ?k3_r18 (fun _ _ _ h => h) (Or.inl ⟨?g_r18, ?y_r18⟩) (by assumption) ?r_r18
 case hi_r18 => (simp only [List.getElem?_toArray, List.getElem?_cons_succ, List.getElem?_cons_zero]; rfl)
 case k1_r18 => kernel_rfl
 case k2_r18 => kernel_rfl
 case k3_r18 => kernel_rfl
 case g_r18 => rfl
 case y_r18 => (intro w hSw; (try dsimp only at hSw); first | (go_simp; done) | (go_simp; with_reducible rfl))
 (try simp only [Act.put, List.setIfInBounds_toArray, List.set_cons_zero, List.set_cons_succ])
 refine wpAnyH_take (i := 19) (oi := ?or19) (v := ?vr19) ?hi_r19 ?k1_r19 ?k2_r19 ?k3_r19 (fun _ _ _ h => h) (Or.inl ⟨?g_r19, ?y_r19⟩) (by assumption) ?r_r19
 case hi_r19 => (simp only [List.getElem?_toArray, List.getElem?_cons_succ, List.getElem?_cons_zero]; rfl)
 case k1_r19 => kernel_rfl
 case k2_r19 => kernel_rfl
 case k3_r19 => kernel_rfl
 case g_r19 => rfl
 case y_r19 => (intro w hSw; (try dsimp only at hSw); first | (go_simp; done) | (go_simp; with_reducible rfl))
 (try simp only [Act.put, List.setIfInBounds_toArray, List.set_cons_zero, List.set_cons_succ])
 refine wpAnyH_take (i := 20) (oi := ?or20) (v := ?vr20) ?hi_r20 ?k1_r20 ?k2_r20 ?k3_r20 (fun _ _ _ h => h) (Or.inl ⟨?g_r20, ?y_r20⟩) (by assumption) ?r_r20
 case hi_r20 => (simp only [List.getElem?_toArray, List.getElem?_cons_succ, List.getElem?_cons_zero]; rfl)
 case k1_r20 => kernel_rfl
 case k2_r20 => kernel_rfl
 case k3_r20 => kernel_rfl
 case g_r20 => rfl
 case y_r20 => (intro w hSw; (try dsimp only at hSw); first | (go_simp; done) | (go_simp; with_reducible rfl))
 (try simp only [Act.put, List.setIfInBounds_toArray, List.set_cons_zero, List.set_cons_succ])
 refine wpAnyH_take (i := 21) (oi := ?or21) (v := ?vr21) ?hi_r21 ?k1_r21 ?k2_r21 ?k3_r21 (fun _ _ _ h => h) (Or.inl ⟨?g_r21, ?y_r21⟩) (by assumption) ?r_r21
 case hi_r21 => (simp only [List.getElem?_toArray, List.getElem?_cons_succ, List.getElem?_cons_zero]; rfl)
 case k1_r21 => kernel_rfl
 case k2_r21 => kernel_rfl
 case k3_r21 => kernel_rfl
 case g_r21 => rfl
 case y_r21 => (intro w hSw; (try dsimp only at hSw); first | (go_simp; done) | (go_simp; with_reducible rfl))
 (try simp only [Act.put, List.setIfInBounds_toArray, List.set_cons_zero, List.set_cons_succ])
 refine wpAnyH_take (i := 22) (oi := ?or22) (v := ?vr22) ?hi_r22 ?k1_r22 ?k2_r22 ?k3_r22 (fun _ _ _ h => h) (Or.inl ⟨?g_r22, ?y_r22⟩) (by assumption) ?r_r22
 case hi_r22 => (simp only [List.getElem?_toArray, List.getElem?_cons_succ, List.getElem?_cons_zero]; rfl)
 case k1_r22 => kernel_rfl
 case k2_r22 => kernel_rfl
 case k3_r22 => kernel_rfl
 case g_r22 => rfl
 case y_r22 => (intro w hSw; (try dsimp only at hSw); first | (go_simp; done) | (go_simp; with_reducible rfl))
 (try simp only [Act.put, List.setIfInBounds_toArray, List.set_cons_zero, List.set_cons_succ])
 refine wpAnyH_take (i := 23) (oi := ?or23) (v := ?vr23) ?hi_r23 ?k1_r23 ?k2_r23 ?k3_r23 (fun _ _ _ h => h) (Or.inl ⟨?g_r23, ?y_r23⟩) (by assumption) ?r_r23
 case hi_r23 => (simp only [List.getElem?_toArray, List.getElem?_cons_succ, List.getElem?_cons_zero]; rfl)
 case k1_r23 => kernel_rfl
 case k2_r23 => kernel_rfl
 case k3_r23 => kernel_rfl
 case g_r23 => rfl
 case y_r23 => (intro w hSw; (try dsimp only at hSw); first | (go_simp; done) | (go_simp; with_reducible rfl))
 (try simp only [Act.put, List.setIfInBounds_toArray, List.set_cons_zero, List.set_cons_succ])
 refine wpAnyH_take (i := 24) (oi := ?or24) (v := ?vr24) ?hi_r24 ?k1_r24 ?k2_r24 ?k3_r24 (fun _ _ _ h => h) (Or.inl ⟨?g_r24, ?y_r24⟩) (by assumption) ?r_r24
 case hi_r24 => (simp only [List.getElem?_toArray, List.getElem?_cons_succ, List.getElem?_cons_zero]; rfl)
 case k1_r24 => kernel_rfl
 case k2_r24 => kernel_rfl
 case k3_r24 => kernel_rfl
 case g_r24 => rfl
 case y_r24 => (intro w hSw; (try dsimp only at hSw); first | (go_simp; done) | (go_simp; with_reducible rfl))
 (try simp only [Act.put, List.setIfInBounds_toArray, List.set_cons_zero, List.set_cons_succ])
 refine wpAnyH_take (i := 25) (oi := ?or25) (v := ?vr25) ?hi_r25 ?k1_r25 ?k2_r25 ?k3_r25 (fun _ _ _ h => h) (Or.inl ⟨?g_r25, ?y_r25⟩) (by assumption) ?r_r25
 case hi_r25 => (simp only [List.getElem?_toArray, List.getElem?_cons_succ, List.getElem?_cons_zero]; rfl)
 case k1_r25 => kernel_rfl
 case k2_r25 => kernel_rfl
 case k3_r25 => kernel_rfl
 case g_r25 => rfl
 case y_r25 => (intro w hSw; (try dsimp only at hSw); first | (go_simp; done) | (go_simp; with_reducible rfl))
 (try simp only [Act.put, List.setIfInBounds_toArray, List.set_cons_zero, List.set_cons_succ])
 refine wpAnyH_take (i := 28) (oi := ?or28) (v := ?vr28) ?hi_r28 ?k1_r28 ?k2_r28 ?k3_r28 (fun _ _ _ h => h) (Or.inl ⟨?g_r28, ?y_r28⟩) (by assumption) ?r_r28
 case hi_r28 => (simp only [List.getElem?_toArray, List.getElem?_cons_succ, List.getElem?_cons_zero]; rfl)
 case k1_r28 => kernel_rfl
 case k2_r28 => kernel_rfl
 case k3_r28 => kernel_rfl
 case g_r28 => rfl
 case y_r28 => (intro w hSw; (try dsimp only at hSw); first | (go_simp; done) | (go_simp; with_reducible rfl))
 (try simp only [Act.put, List.setIfInBounds_toArray, List.set_cons_zero, List.set_cons_succ])
 refine wpAnyH_ready (rs := [7]) ?k1_r7 (by simp) ?r_r7
 case k1_r7 => kernel_rfl
 refine AllReadyH.cons (o := ?or7) ?hi_r7 (fun K hK => ?s_r7) ?m_r7
 case hi_r7 => (simp only [List.getElem?_toArray, List.getElem?_cons_succ, List.getElem?_cons_zero]; rfl)
 case m_r7 => exact AllReadyH.nil
 go_simp
 (go_at_call 53; (refine (cut_rp 0 a (HS.out.rp.below PD.out.b)).mono ?_); rintro e w7 ⟨r7, rfl, hr, hb⟩; have R7 := Lib.hid hr; have P7 := Lib.hid (PD.out.next hb); have B7 := Lib.hid hb; clear hr hb)
 (try go_wp2_with fail)
 refine hK.out _ _ (PS.of P7.out) (fun hHeld => ?_)
 clear hK K
 (try simp only [Act.put, List.setIfInBounds_toArray, List.set_cons_zero, List.set_cons_succ])
 refine wpAnyH_take (i := 9) (oi := ?or9) (v := ?vr9) ?hi_r9 ?k1_r9 ?k2_r9 ?k3_r9 (fun _ _ _ h => h) (Or.inl ⟨?g_r9, ?y_r9⟩) (by assumption) ?r_r9
 case hi_r9 => (simp only [List.getElem?_toArray, List.getElem?_cons_succ, List.getElem?_cons_zero]; rfl)
 case k1_r9 => kernel_rfl
 case k2_r9 => kernel_rfl
 case k3_r9 => kernel_rfl
 case g_r9 => rfl
 case y_r9 => (intro w hSw; (try dsimp only at hSw); first | (go_simp; done) | (go_simp; with_reducible rfl))
 (try simp only [Act.put, List.setIfInBounds_toArray, List.set_cons_zero, List.set_cons_succ])
 refine wpAnyH_ready (rs := [16]) ?k1_r16 (by simp) ?r_r16
 case k1_r16 => kernel_rfl
 refine AllReadyH.cons (o := ?or16) ?hi_r16 (fun K hK => ?s_r16) ?m_r16
 case hi_r16 => (simp only [List.getElem?_toArray, List.getElem?_cons_succ, List.getElem?_cons_zero]; rfl)
 case m_r16 => exact AllReadyH.nil
 go_simp
 (go_at_call 53; (refine (cut_rp a b (HS.out.rp.below P7.out.b)).mono ?_); rintro e w16 ⟨r16, rfl, hr, hb⟩; have R16 := Lib.hid hr; have P16 := Lib.hid (P7.out.next hb); have B16 := Lib.hid hb; clear hr hb)
 (try go_wp2_with fail)
 refine hK.out _ _ (PS.of P16.out) (fun hHeld => ?_)
 clear hK K
 (try simp only [Act.put, List.setIfInBounds_toArray, List.set_cons_zero, List.set_cons_succ])
 refine wpAnyH_take (i := 17) (oi := ?or17) (v := ?vr17) ?hi_r17 ?k1_r17 ?k2_r17 ?k3_r17 (fun _ _ _ h => h) (Or.inl ⟨?g_r17, ?y_r17⟩) (by assumption) ?r_r17
 case hi_r17 => (simp only [List.getElem?_toArray, List.getElem?_cons_succ, List.getElem?_cons_zero]; rfl)
 case k1_r17 => kernel_rfl
 case k2_r17 => kernel_rfl
 case k3_r17 => kernel_rfl
 case g_r17 => rfl
 case y_r17 => (intro w hSw; (try dsimp only at hSw); first | (go_simp; done) | (go_simp; with_reducible rfl))
 (try simp only [Act.put, List.setIfInBounds_toArray, List.set_cons_zero, List.set_cons_succ])
 refine wpAnyH_ready (rs := [26]) ?k1_r26 (by simp) ?r_r26
 case k1_r26 => kernel_rfl
 refine AllReadyH.cons (o := ?or26) ?hi_r26 (fun K hK => ?s_r26) ?m_r26
 case hi_r26 => (simp only [List.getElem?_toArray, List.getElem?_cons_succ, List.getElem?_cons_zero]; rfl)
 case m_r26 => exact AllReadyH.nil
 go_simp
 (go_at_call 36; (refine (len_rpb (p := p) (s := x.f2) (HS.out.rp.below P16.out.b) hz).mono ?_); rintro e w26 ⟨rfl, hb⟩; have P26 := Lib.hid (P16.out.next hb); have B26 := Lib.hid hb; clear hb)
 (try go_wp2_with fail)
 refine hK.out _ _ (PS.of P26.out) (fun hHeld => ?_)
 clear hK K
 (try simp only [Act.put, List.setIfInBounds_toArray, List.set_cons_zero, List.set_cons_succ])
 refine wpAnyH_ready (rs := [27]) ?k1_r27 (by simp) ?r_r27
 case k1_r27 => kernel_rfl
 refine AllReadyH.cons (o := ?or27) ?hi_r27 (fun K hK => ?s_r27) ?m_r27
 case hi_r27 => (simp only [List.getElem?_toArray, List.getElem?_cons_succ, List.getElem?_cons_zero]; rfl)
 case m_r27 => exact AllReadyH.nil
 go_simp
 (go_at_call 53; (refine (cut_rp b (cnt x.f2) (HS.out.rp.below P26.out.b)).mono ?_); rintro e w27 ⟨r27, rfl, hr, hb⟩; have R27 := Lib.hid hr; have P27 := Lib.hid (P26.out.next hb); have B27 := Lib.hid hb; clear hr hb; have BX := Lib.hid (below_step (below_step (below_step (below_step (show Below V.heap.size V V.drew from (by with_reducible repeat (first | exact Below.refl _ _ | apply pw_below_drewN | apply Below.drew))) B7.out) B16.out) B26.out) B27.out); have F12 := Lib.hid (blk_below ZV.out.h12 BX.out); have F13 := Lib.hid (blk_below ZV.out.h13 BX.out); have F14 := Lib.hid (blk_below ZV.out.h14 BX.out); have q20 := (blk_cell F12.out 0).trans rfl; have z20 := blk_frozen F12.out 0; have q21 := (blk_cell F12.out 1).trans rfl; have z21 := blk_frozen F12.out 1; have q22 := (blk_cell F12.out 2).trans rfl; have z22 := blk_frozen F12.out 2; have q23 := (blk_cell F12.out 3).trans rfl; have z23 := blk_frozen F12.out 3; have q24 := (blk_cell F12.out 4).trans rfl; have z24 := blk_frozen F12.out 4; have q30 := (blk_cell F13.out 0).trans rfl; have z30 := blk_frozen F13.out 0; have q31 := (blk_cell F13.out 1).trans rfl; have z31 := blk_frozen F13.out 1; have q32 := (blk_cell F13.out 2).trans rfl; have z32 := blk_frozen F13.out 2; have q33 := (blk_cell F13.out 3).trans rfl; have z33 := blk_frozen F13.out 3; have q34 := (blk_cell F13.out 4).trans rfl; have z34 := blk_frozen F13.out 4; have q40 := (blk_cell F14.out 0).trans rfl; have z40 := blk_frozen F14.out 0; have q41 := (blk_cell F14.out 1).trans rfl; have z41 := blk_frozen F14.out 1; have q42 := (blk_cell F14.out 2).trans rfl; have z42 := blk_frozen F14.out 2; have q43 := (blk_cell F14.out 3).trans rfl; have z43 := blk_frozen F14.out 3; have q44 := (blk_cell F14.out 4).trans rfl; have z44 := blk_frozen F14.out 4)
 (try go_wp2_with fail)
 refine hK.out _ _ (PS.of P27.out) (fun hHeld => ?_)
 clear hK K
 (try simp only [Act.put, List.setIfInBounds_toArray, List.set_cons_zero, List.set_cons_succ])
 refine wpAnyH_take (i := 29) (oi := ?or29) (v := ?vr29) ?hi_r29 ?k1_r29 ?k2_r29 ?k3_r29 (fun _ _ _ h => h) (Or.inl ⟨?g_r29, ?y_r29⟩) (by assumption) ?r_r29
 case hi_r29 => (simp only [List.getElem?_toArray, List.getElem?_cons_succ, List.getElem?_cons_zero]; rfl)
 case k1_r29 => kernel_rfl
 case k2_r29 => kernel_rfl
 case k3_r29 => kernel_rfl
 case g_r29 => rfl
 case y_r29 => (intro w hSw; (try dsimp only at hSw); first | (go_simp; done) | (go_simp; with_reducible rfl))
 (try simp only [Act.put, List.setIfInBounds_toArray, List.set_cons_zero, List.set_cons_succ])
 refine wpAnyH_ready (rs := [30]) ?k1_r30 (by simp) ?r_r30
 case k1_r30 => kernel_rfl
 refine AllReadyH.cons (o := ?or30) ?hi_r30 (fun K hK => ?s_r30) ?m_r30
 case hi_r30 => (simp only [List.getElem?_toArray, List.getElem?_cons_succ, List.getElem?_cons_zero]; rfl)
 case m_r30 => exact AllReadyH.nil
 go_simp
 refine hK.out _ _ (PS.of (P27.out.five (by omega) (by have := G3.out; omega) (by have := GG.out; omega) _ _ _ _ _)) (fun hHeld => ?_)
 clear hK K
 (try simp only [Act.put, List.setIfInBounds_toArray, List.set_cons_zero, List.set_cons_succ])
 refine wpAnyH_ready (rs := [31]) ?k1_r31 (by simp) ?r_r31
 case k1_r31 => kernel_rfl
 refine AllReadyH.cons (o := ?or31) ?hi_r31 (fun K hK => ?s_r31) ?m_r31
 case hi_r31 => (simp only [List.getElem?_toArray, List.getElem?_cons_succ, List.getElem?_cons_zero]; rfl)
 case m_r31 => exact AllReadyH.nil
 go_simp
 refine hK.out _ _ (PS.of ((P27.out.five (by omega) (by have := G3.out; omega) (by have := GG.out; omega) _ _ _ _ _).five (by omega) (by have := G3.out; omega) (by have := GG.out; omega) _ _ _ _ _)) (fun hHeld => ?_)
 clear hK K
 (try simp only [Act.put, List.setIfInBounds_toArray, List.set_cons_zero, List.set_cons_succ])
 refine wpAnyH_ready (rs := [32]) ?k1_r32 (by simp) ?r_r32
 case k1_r32 => kernel_rfl
 refine AllReadyH.cons (o := ?or32) ?hi_r32 (fun K hK => ?s_r32) ?m_r32
 case hi_r32 => (simp only [List.getElem?_toArray, List.getElem?_cons_succ, List.getElem?_cons_zero]; rfl)
 case m_r32 => exact AllReadyH.nil
 go_simp
 refine hK.out _ _ (PS.of (((P27.out.five (by omega) (by have := G3.out; omega) (by have := GG.out; omega) _ _ _ _ _).five (by omega) (by have := G3.out; omega) (by have := GG.out; omega) _ _ _ _ _).five (by omega) (by have := G3.out; omega) (by have := GG.out; omega) _ _ _ _ _)) (fun hHeld => ?_)
 clear hK K
 (try simp only [Act.put, List.setIfInBounds_toArray, List.set_cons_zero, List.set_cons_succ])
 refine wpAnyH_done (by kernel_rfl) ?_ _
 refine NoPanic.normal ?_
 obtain ⟨rfl, rfl, rfl, rfl⟩ := HL.out
 obtain ⟨rfl, rfl⟩ := HXA.out
 obtain ⟨rfl, rfl⟩ := HXZ.out
 obtain ⟨rfl, rfl⟩ := HXB.out
 have LL := lay3 (y1 := pt1 x a) (y2 := pt2 x a b mi lb) (y3 := pt3 x a b la) P27.out.b (k1 := w.heap.size + 1) (k2 := w.heap.size + 1 + 1) (k3 := w.heap.size + 1 + 1 + 1) (by omega) (by omega) (by omega) (by omega) (by omega) (by omega)
  ⟨(SA.out.below BX.out).with (x := pt1 x a) rfl rfl, R7.out.below (below_step (below_step B16.out B26.out) B27.out)⟩
  ⟨(nG_sp 0 0 _).toTR.with (x := pt2 x a b mi lb) rfl rfl, R16.out.below (below_step B26.out B27.out)⟩
  ⟨(SB.out.below BX.out).with (x := pt3 x a b la) rfl rfl, R27.out⟩ F12.out F13.out F14.out
 refine gen2 (φ := fun W => Exit.then _ _ Exit.normal _ W) (P := fun W => (SP W (pt1 x a) r7 A1 c1 B1 d1 ∧ SP W (pt2 x a b mi lb) r16 none 0 none 0 ∧ SP W (pt3 x a b la) r27 A5 c5 B5 d5) ∧ W.heap[w.heap.size + 1]? = some (.cells (sgC (pt1 x a) r7 A1 c1 B1 d1) 31 (0, 0)) ∧ W.heap[w.heap.size + 1 + 1]? = some (.cells (sgC (pt2 x a b mi lb) r16 none 0 none 0) 31 (0, 0)) ∧ W.heap[w.heap.size + 1 + 1 + 1]? = some (.cells (sgC (pt3 x a b la) r27 A5 c5 B5 d5) 31 (0, 0)) ∧ Below w.heap.size w W) LL ?_
 rintro W ⟨⟨s1, s2, s3⟩, g1, g2, g3, hb⟩
 go_wp2
 refine bodyPost_ret (results_list (rs := [.cell 12 31, .cell 13 31, .cell 14 31]) rfl (by simp) (.cell _ _ (sgC (pt1 x a) r7 A1 c1 B1 d1) (0, 0) _ rfl g1 Tryd.underlying31 rfl (by kernel_rfl) (.cell _ _ (sgC (pt2 x a b mi lb) r16 none 0 none 0) (0, 0) _ rfl g2 Tryd.underlying31 rfl (by kernel_rfl) (.cell _ _ (sgC (pt3 x a b la) r27 A5 c5 B5 d5) (0, 0) _ rfl g3 Tryd.underlying31 rfl (by kernel_rfl) .nil)))) rfl ?_
 exact ⟨r7, A1, c1, B1, d1, r16, r27, A5, c5, B5, d5, rfl, s1, s2, s3, hb⟩
end Go.Proofs.YtjphmebhofkhcaaDoor.Seg
/- Segments: the walk of the law SegmentWhole. Conditions: none beside the row's. -/
namespace Go.Proofs.YtjphmebhofkhcaaDoor.Seg
open Go.RowKit Go.Proofs.YtjphmebhofkhcaaDoorPl Go.Proofs.YtjphmebhofkhcaaDoorW.PrintWords Go.Proofs.YtjphmebhofkhcaaDoorW.PrintLast Go.Proofs.YtjphmebhofkhcaaDoorW.PrintMore Go.Proofs.YtjphmebhofkhcaaDoor.Rope Go.Proofs.YtjphmebhofkhcaaDoor.PSegAll Go.Proofs.YtjphmebhofkhcaaDoor.Pure
set_option linter.unusedVariables false
set_option linter.unusedSimpArgs false
theorem cut_le {s : ByteArray} (hv : Lib.validD s.data.toList = true) (a b : Int) : (cutT s a b).size ≤ s.size := by
 unfold cutT
 rw [ofL_size, ← toList_size s, (lets_ok hv).2]
 have e1 : ((lets s).take b.toNat).flatten.length ≤ (lets s).flatten.length := by
  conv => rhs; rw [flatten_take_drop (lets s) b.toNat]
  rw [List.length_append]
  omega
 have e2 : (((lets s).take b.toNat).drop a.toNat).flatten.length ≤ ((lets s).take b.toNat).flatten.length := by
  conv => rhs; rw [flatten_take_drop ((lets s).take b.toNat) a.toNat]
  rw [List.length_append]
  omega
 omega
/-- Three cuts, one behind the other, are the text. -/
theorem cut_three {s : ByteArray} (hv : Lib.validD s.data.toList = true) (hs : s.size ≤ 1099511627776) {a b : Int} (h0 : 0 ≤ a) (h1 : a ≤ b) (h2 : b ≤ cnt s) : cutT s 0 a ++ cutT s a b ++ cutT s b (cnt s) = s := by
 have h3 : (cnt s).toNat = (lets s).length := by rw [cnt_lets hv hs]; rfl
 apply ByteArray.ext
 apply Array.ext'
 unfold cutT
 rw [ByteArray.data_append, ByteArray.data_append, Array.toList_append, Array.toList_append, ofL_data, ofL_data, ofL_data, (lets_ok hv).2, ← List.flatten_append, ← List.flatten_append]
 congr 1
 have e : (lets s).take a.toNat = ((lets s).take b.toNat).take a.toNat := by rw [List.take_take, Nat.min_eq_left (by omega)]
 rw [h3, List.take_length, show (0 : Int).toNat = 0 from rfl, List.drop_zero, e, List.take_append_drop, List.take_append_drop]
/-- Three segments in three blocks. -/
structure TZ (k1 k2 k3 : Nat) (y1 : G) (p1 A1 : Option Addr) (c1 : Nat) (B1 : Option Addr) (d1 : Nat) (y2 : G) (p2 A2 : Option Addr) (c2 : Nat) (B2 : Option Addr) (d2 : Nat) (y3 : G) (p3 A3 : Option Addr) (c3 : Nat) (B3 : Option Addr) (d3 : Nat) (W : World) : Prop where
 s1 : SB k1 y1 p1 A1 c1 B1 d1 W
 s2 : SB k2 y2 p2 A2 c2 B2 d2 W
 s3 : SB k3 y3 p3 A3 c3 B3 d3 W
theorem TZ.next {k1 k2 k3 : Nat} {y1 : G} {p1 A1 : Option Addr} {c1 : Nat} {B1 : Option Addr} {d1 : Nat} {y2 : G} {p2 A2 : Option Addr} {c2 : Nat} {B2 : Option Addr} {d2 : Nat} {y3 : G} {p3 A3 : Option Addr} {c3 : Nat} {B3 : Option Addr} {d3 : Nat} {W W' : World} (h : TZ k1 k2 k3 y1 p1 A1 c1 B1 d1 y2 p2 A2 c2 B2 d2 y3 p3 A3 c3 B3 d3 W) (hb : Below W.heap.size W W') : TZ k1 k2 k3 y1 p1 A1 c1 B1 d1 y2 p2 A2 c2 B2 d2 y3 p3 A3 c3 B3 d3 W' := ⟨h.s1.next hb, h.s2.next hb, h.s3.next hb⟩
theorem TZ.new {W : World} {y1 : G} {p1 A1 : Option Addr} {c1 : Nat} {B1 : Option Addr} {d1 : Nat} {y2 : G} {p2 A2 : Option Addr} {c2 : Nat} {B2 : Option Addr} {d2 : Nat} {y3 : G} {p3 A3 : Option Addr} {c3 : Nat} {B3 : Option Addr} {d3 : Nat} (h1 : SP W y1 p1 A1 c1 B1 d1) (h2 : SP W y2 p2 A2 c2 B2 d2) (h3 : SP W y3 p3 A3 c3 B3 d3) : TZ W.heap.size (W.heap.size + 1) (W.heap.size + 1 + 1) y1 p1 A1 c1 B1 d1 y2 p2 A2 c2 B2 d2 y3 p3 A3 c3 B3 d3 (((W.alloc (.cells (sgC y1 p1 A1 c1 B1 d1) 31 (0, 0))).alloc (.cells (sgC y2 p2 A2 c2 B2 d2) 31 (0, 0))).alloc (.cells (sgC y3 p3 A3 c3 B3 d3) 31 (0, 0))) :=
 have hb : Below W.heap.size W (((W.alloc (.cells (sgC y1 p1 A1 c1 B1 d1) 31 (0, 0))).alloc (.cells (sgC y2 p2 A2 c2 B2 d2) 31 (0, 0))).alloc (.cells (sgC y3 p3 A3 c3 B3 d3) 31 (0, 0))) := below_alloc (below_alloc (below_alloc (Below.refl _ _) _) _) _
 ⟨⟨h1.below hb, blk_below (blk_new W _) (below_alloc (below_alloc (Below.refl _ _) _) _)⟩, ⟨h2.below hb, blk_below (blk_newS (by simp)) (below_alloc (Below.refl _ _) _)⟩, ⟨h3.below hb, blk_newS (by simp)⟩⟩
/-- What loads of the three read. -/
abbrev T3 (V : World) (k1 k2 k3 : Nat) (y1 : G) (p1 A1 : Option Addr) (c1 : Nat) (B1 : Option Addr) (d1 : Nat) (y2 : G) (p2 A2 : Option Addr) (c2 : Nat) (B2 : Option Addr) (d2 : Nat) (y3 : G) (p3 A3 : Option Addr) (c3 : Nat) (B3 : Option Addr) (d3 : Nat) (w' : World) : Prop := Q5 V k1 y1 p1 A1 c1 B1 d1 w' ∧ Q5 V k2 y2 p2 A2 c2 B2 d2 w' ∧ Q5 V k3 y3 p3 A3 c3 B3 d3 w'
theorem T3.next {V W W' : World} {k1 k2 k3 : Nat} {y1 : G} {p1 A1 : Option Addr} {c1 : Nat} {B1 : Option Addr} {d1 : Nat} {y2 : G} {p2 A2 : Option Addr} {c2 : Nat} {B2 : Option Addr} {d2 : Nat} {y3 : G} {p3 A3 : Option Addr} {c3 : Nat} {B3 : Option Addr} {d3 : Nat} (h : T3 V k1 k2 k3 y1 p1 A1 c1 B1 d1 y2 p2 A2 c2 B2 d2 y3 p3 A3 c3 B3 d3 W) (hb : Below W.heap.size W W') : T3 V k1 k2 k3 y1 p1 A1 c1 B1 d1 y2 p2 A2 c2 B2 d2 y3 p3 A3 c3 B3 d3 W' := ⟨Q5.next h.1 hb, Q5.next h.2.1 hb, Q5.next h.2.2 hb⟩
theorem T3.b {V W : World} {k1 k2 k3 : Nat} {y1 : G} {p1 A1 : Option Addr} {c1 : Nat} {B1 : Option Addr} {d1 : Nat} {y2 : G} {p2 A2 : Option Addr} {c2 : Nat} {B2 : Option Addr} {d2 : Nat} {y3 : G} {p3 A3 : Option Addr} {c3 : Nat} {B3 : Option Addr} {d3 : Nat} (h : T3 V k1 k2 k3 y1 p1 A1 c1 B1 d1 y2 p2 A2 c2 B2 d2 y3 p3 A3 c3 B3 d3 W) : Below V.heap.size V W := Q5.b h.1
theorem T3.of {V W : World} {k1 k2 k3 : Nat} {y1 : G} {p1 A1 : Option Addr} {c1 : Nat} {B1 : Option Addr} {d1 : Nat} {y2 : G} {p2 A2 : Option Addr} {c2 : Nat} {B2 : Option Addr} {d2 : Nat} {y3 : G} {p3 A3 : Option Addr} {c3 : Nat} {B3 : Option Addr} {d3 : Nat} (h : TZ k1 k2 k3 y1 p1 A1 c1 B1 d1 y2 p2 A2 c2 B2 d2 y3 p3 A3 c3 B3 d3 V) (hb : Below V.heap.size V W) : T3 V k1 k2 k3 y1 p1 A1 c1 B1 d1 y2 p2 A2 c2 B2 d2 y3 p3 A3 c3 B3 d3 W := ⟨Q5.of h.s1.h hb, Q5.of h.s2.h hb, Q5.of h.s3.h hb⟩
/-- .. and of the law's segment and a plain value. -/
abbrev T5 (V : World) (k1 k2 k3 : Nat) (y1 : G) (p1 A1 : Option Addr) (c1 : Nat) (B1 : Option Addr) (d1 : Nat) (y2 : G) (p2 A2 : Option Addr) (c2 : Nat) (B2 : Option Addr) (d2 : Nat) (y3 : G) (p3 A3 : Option Addr) (c3 : Nat) (B3 : Option Addr) (d3 : Nat) (g2 : Nat) (x : G) (gP : Nat) (vP vQ : Value) (w' : World) : Prop := T3 V k1 k2 k3 y1 p1 A1 c1 B1 d1 y2 p2 A2 c2 B2 d2 y3 p3 A3 c3 B3 d3 w' ∧ w'.cell? ⟨g2, 0, none⟩ = some (.int .i64 x.f0) ∧ w'.cell? ⟨g2, 2, none⟩ = some (.string x.f2) ∧ w'.cell? ⟨gP, 3, none⟩ = some vP ∧ w'.cell? ⟨gP, 4, none⟩ = some vQ
theorem T5.next {V W W' : World} {k1 k2 k3 : Nat} {y1 : G} {p1 A1 : Option Addr} {c1 : Nat} {B1 : Option Addr} {d1 : Nat} {y2 : G} {p2 A2 : Option Addr} {c2 : Nat} {B2 : Option Addr} {d2 : Nat} {y3 : G} {p3 A3 : Option Addr} {c3 : Nat} {B3 : Option Addr} {d3 : Nat} {g2 : Nat} {x : G} {gP : Nat} {vP vQ : Value} (h : T5 V k1 k2 k3 y1 p1 A1 c1 B1 d1 y2 p2 A2 c2 B2 d2 y3 p3 A3 c3 B3 d3 g2 x gP vP vQ W) (hb : Below W.heap.size W W') : T5 V k1 k2 k3 y1 p1 A1 c1 B1 d1 y2 p2 A2 c2 B2 d2 y3 p3 A3 c3 B3 d3 g2 x gP vP vQ W' := ⟨T3.next h.1 hb, pw_cell_below hb h.2.1, pw_cell_below hb h.2.2.1, pw_cell_below hb h.2.2.2.1, pw_cell_below hb h.2.2.2.2⟩
theorem T5.b {V W : World} {k1 k2 k3 : Nat} {y1 : G} {p1 A1 : Option Addr} {c1 : Nat} {B1 : Option Addr} {d1 : Nat} {y2 : G} {p2 A2 : Option Addr} {c2 : Nat} {B2 : Option Addr} {d2 : Nat} {y3 : G} {p3 A3 : Option Addr} {c3 : Nat} {B3 : Option Addr} {d3 : Nat} {g2 : Nat} {x : G} {gP : Nat} {vP vQ : Value} (h : T5 V k1 k2 k3 y1 p1 A1 c1 B1 d1 y2 p2 A2 c2 B2 d2 y3 p3 A3 c3 B3 d3 g2 x gP vP vQ W) : Below V.heap.size V W := T3.b h.1
theorem abc_one : lets ⟨#[97, 98, 99]⟩ = [[97], [98], [99]] := lets_ascii ⟨#[97, 98, 99]⟩ (by decide)
theorem abc_cnt : cnt ⟨#[97, 98, 99]⟩ = 3 := by rw [cnt_lets (by decide +kernel) (by decide), abc_one]; rfl
set_option maxRecDepth 1000000 in
set_option maxHeartbeats 8000000 in
theorem segWhole_walk (x : G) (A : Option Addr) (c : Nat) (B : Option Addr) (d : Nat) (y : D) (w : World) (hT : Tabs w) (hr : GR w x A c B d) (hy : y.f4.size ≤ 140737488355328) :
  Calls Tryd.prog 5 #[.agg (gC x A c B d), .agg (dC y)] w fun e w' => e = .returned (.bool true) ∧ Below w.heap.size w w' := by
 have HT := Lib.hid hT
 have HR := Lib.hid hr
 clear hT hr
 have HC := Lib.hid (show clampI (cnt (tG ⟨#[97, 98, 99]⟩).f2) 1 = 1 ∧ (1 : Int) + lenI (cnt (tG ⟨#[97, 98, 99]⟩).f2) 1 1 = 2 by
  show clampI (cnt ⟨#[97, 98, 99]⟩) 1 = 1 ∧ (1 : Int) + lenI (cnt ⟨#[97, 98, 99]⟩) 1 1 = 2
  rw [abc_cnt]
  exact ⟨rfl, rfl⟩)
 obtain ⟨y1, hy1⟩ : ∃ y : G, y = pt1 (tG ⟨#[97, 98, 99]⟩) 1 := ⟨_, rfl⟩
 obtain ⟨y2, hy2⟩ : ∃ y : G, y = pt2 (tG ⟨#[97, 98, 99]⟩) 1 2 5 3 := ⟨_, rfl⟩
 obtain ⟨y3, hy3⟩ : ∃ y : G, y = pt3 (tG ⟨#[97, 98, 99]⟩) 1 2 6 := ⟨_, rfl⟩
 have HY := Lib.hid (And.intro hy1 (And.intro hy2 hy3))
 have ET := Lib.hid (show y1.f2 ++ y2.f2 ++ y3.f2 = ⟨#[97, 98, 99]⟩ by
  rw [hy1, hy2, hy3]
  show cutT ⟨#[97, 98, 99]⟩ 0 1 ++ cutT ⟨#[97, 98, 99]⟩ 1 2 ++ cutT ⟨#[97, 98, 99]⟩ 2 (cnt ⟨#[97, 98, 99]⟩) = _
  exact cut_three (by decide +kernel) (by decide) (by decide) (by decide) (by rw [abc_cnt]; decide))
 have ES := Lib.hid (show y1.f2.size + y2.f2.size + y3.f2.size = 3 by
  have := congrArg ByteArray.size ET.out
  rw [ByteArray.size_append, ByteArray.size_append] at this
  exact this)
 clear hy1 hy2 hy3
 go_enter Tryd.func5, Tryd.ntmps5
 go_upto_region 1 with fail
 refine gen2 (φ := fun W => Code.wp _ _ _ _ W) (P := fun W => JZ w x A c B d y W) ⟨below_alloc (below_alloc (Below.refl _ _) _) _, blk_alloc (blk_new w _) _, blk_newS (by simp)⟩ ?_
 intro V0 hV0
 have Z0 := Lib.hid hV0
 clear hV0
 go_upto_region 2 with (first | (go_at_call 9; refine (text5_calls ⟨#[97, 98, 99]⟩ _ (HT.out.below Z0.out.b) (by decide +kernel) (by decide)).mono ?_; rintro e w1 ⟨p1, A0, c0, B0, d0, rfl, s1, hb⟩; have S0 := Lib.hid s1; have Z1 := Lib.hid (Z0.out.next hb); clear s1 hb) | (go_at_call 20; refine (segPart_calls (tG ⟨#[97, 98, 99]⟩) p1 A0 c0 B0 d0 1 1 5 6 3 _ S0.out (by decide) (by decide) (by decide) HC.out.1.symm HC.out.2.symm).mono ?_; rw [← HY.out.1, ← HY.out.2.1, ← HY.out.2.2]; rintro e w2 ⟨q1, A1, c1, B1, d1, q2, q3, A3, c3, B3, d3, rfl, s1, s2, s3, hb⟩; have S1 := Lib.hid s1; have S2 := Lib.hid s2; have S3 := Lib.hid s3; have Z2 := Lib.hid (Z1.out.next hb); clear s1 s2 s3 hb S0 Z1))
 refine gen2 (φ := fun W => Code.wp _ _ _ _ W) (P := fun W => JZ w x A c B d y W ∧ TZ w2.heap.size (w2.heap.size + 1) (w2.heap.size + 1 + 1) y1 q1 A1 c1 B1 d1 y2 q2 none 0 none 0 y3 q3 A3 c3 B3 d3 W) ⟨Z2.out.next (below_alloc (below_alloc (below_alloc (Below.refl _ _) _) _) _), TZ.new S1.out S2.out S3.out⟩ ?_
 rintro V ⟨hz, ht⟩
 have ZV := Lib.hid hz
 have TV := Lib.hid ht
 clear hz ht Z2 S1 S2 S3 Z0
 generalize w2.heap.size = k at *
 have ee := ET.out
 have n1 : ¬ (9223372036854775807 < y1.f2.size + y2.f2.size) := by have := ES.out; omega
 have n2 : ¬ (9223372036854775807 < (y1.f2 ++ y2.f2).size + y3.f2.size) := by rw [ByteArray.size_append]; have := ES.out; omega
 have n3 : ¬ (9223372036854775807 < y1.f2.size + y2.f2.size + y3.f2.size) := by have := ES.out; omega
 have QD := Lib.hid (show T3 V k (k + 1) (k + 1 + 1) y1 q1 A1 c1 B1 d1 y2 q2 none 0 none 0 y3 q3 A3 c3 B3 d3 V.drew from T3.of TV.out (by with_reducible repeat (first | exact Below.refl _ _ | apply pw_below_drewN | apply Below.drew)))
 refine wp_region_noPanic ?_
 refine wp_region_held_drew (S := (fun w' => T3 V k (k + 1) (k + 1 + 1) y1 q1 A1 c1 B1 d1 y2 q2 none 0 none 0 y3 q3 A3 c3 B3 d3 w')) ?hm_a ?hS_a (fun hHeld => ?_)
 case hm_a => kernel_rfl
 case hS_a => exact QD.out
 refine wpAnyH_take (i := 0) (oi := ?oa0) (v := ?va0) ?hi_a0 ?k1_a0 ?k2_a0 ?k3_a0 (fun _ _ _ h => h) (Or.inl ⟨?g_a0, ?y_a0⟩) (by assumption) ?r_a0
 case hi_a0 => (simp only [List.getElem?_toArray, List.getElem?_cons_succ, List.getElem?_cons_zero]; rfl)
 case k1_a0 => kernel_rfl
 case k2_a0 => kernel_rfl
 case k3_a0 => kernel_rfl
 case g_a0 => rfl
 case y_a0 => (intro w hSw; (try dsimp only at hSw); first | (go_simp; done) | (go_simp; with_reducible rfl))
 (try simp only [Act.put, List.setIfInBounds_toArray, List.set_cons_zero, List.set_cons_succ])
 refine wpAnyH_take (i := 3) (oi := ?oa3) (v := ?va3) ?hi_a3 ?k1_a3 ?k2_a3 ?k3_a3 (fun _ _ _ h => h) (Or.inl ⟨?g_a3, ?y_a3⟩) (by assumption) ?r_a3
 case hi_a3 => (simp only [List.getElem?_toArray, List.getElem?_cons_succ, List.getElem?_cons_zero]; rfl)
 case k1_a3 => kernel_rfl
 case k2_a3 => kernel_rfl
 case k3_a3 => kernel_rfl
 case g_a3 => rfl
 case y_a3 => (intro w hSw; (try dsimp only at hSw); first | (go_simp; done) | (go_simp; with_reducible rfl))
 (try simp only [Act.put, List.setIfInBounds_toArray, List.set_cons_zero, List.set_cons_succ])
 refine wpAnyH_take (i := 7) (oi := ?oa7) (v := ?va7) ?hi_a7 ?k1_a7 ?k2_a7 ?k3_a7 (fun _ _ _ h => h) (Or.inl ⟨?g_a7, ?y_a7⟩) (by assumption) ?r_a7
 case hi_a7 => (simp only [List.getElem?_toArray, List.getElem?_cons_succ, List.getElem?_cons_zero]; rfl)
 case k1_a7 => kernel_rfl
 case k2_a7 => kernel_rfl
 case k3_a7 => kernel_rfl
 case g_a7 => rfl
 case y_a7 => (intro w hSw; (try dsimp only at hSw); first | (go_simp; done) | (go_simp; with_reducible rfl))
 (try simp only [Act.put, List.setIfInBounds_toArray, List.set_cons_zero, List.set_cons_succ])
 refine wpAnyH_ready (rs := [1]) ?k1_a1 (by simp) ?r_a1
 case k1_a1 => kernel_rfl
 refine AllReadyH.cons (o := ?oa1) ?hi_a1 (fun K hK => ?s_a1) ?m_a1
 case hi_a1 => (simp only [List.getElem?_toArray, List.getElem?_cons_succ, List.getElem?_cons_zero]; rfl)
 case m_a1 => exact AllReadyH.nil
 go_simp
 (go_at_call 15; (refine (ropeG_calls y1 q1 A1 c1 B1 d1 _).mono ?_); rintro e wra1 ⟨rfl, hb⟩; have Qa1 := Lib.hid (T3.next QD.out hb); clear hb)
 (try go_wp2_with fail)
 refine hK.out _ _ Qa1.out (fun hHeld => ?_)
 clear hK K
 (try simp only [Act.put, List.setIfInBounds_toArray, List.set_cons_zero, List.set_cons_succ])
 refine wpAnyH_ready (rs := [2]) ?k1_a2 (by simp) ?r_a2
 case k1_a2 => kernel_rfl
 refine AllReadyH.cons (o := ?oa2) ?hi_a2 (fun K hK => ?s_a2) ?m_a2
 case hi_a2 => (simp only [List.getElem?_toArray, List.getElem?_cons_succ, List.getElem?_cons_zero]; rfl)
 case m_a2 => exact AllReadyH.nil
 go_simp
 (go_at_call 16; (refine (text_rpS (p := q1) (s := y1.f2) (TV.out.s1.sp.rp.below (T3.b Qa1.out))).mono ?_); rintro e wta2 ⟨rfl, hb⟩; have Qa2 := Lib.hid (T3.next Qa1.out hb); clear hb)
 (try go_wp2_with fail)
 refine hK.out _ _ Qa2.out (fun hHeld => ?_)
 clear hK K
 (try simp only [Act.put, List.setIfInBounds_toArray, List.set_cons_zero, List.set_cons_succ])
 refine wpAnyH_ready (rs := [4]) ?k1_a4 (by simp) ?r_a4
 case k1_a4 => kernel_rfl
 refine AllReadyH.cons (o := ?oa4) ?hi_a4 (fun K hK => ?s_a4) ?m_a4
 case hi_a4 => (simp only [List.getElem?_toArray, List.getElem?_cons_succ, List.getElem?_cons_zero]; rfl)
 case m_a4 => exact AllReadyH.nil
 go_simp
 (go_at_call 15; (refine (ropeG_calls y2 q2 none 0 none 0 _).mono ?_); rintro e wra4 ⟨rfl, hb⟩; have Qa4 := Lib.hid (T3.next Qa2.out hb); clear hb)
 (try go_wp2_with fail)
 refine hK.out _ _ Qa4.out (fun hHeld => ?_)
 clear hK K
 (try simp only [Act.put, List.setIfInBounds_toArray, List.set_cons_zero, List.set_cons_succ])
 refine wpAnyH_ready (rs := [5]) ?k1_a5 (by simp) ?r_a5
 case k1_a5 => kernel_rfl
 refine AllReadyH.cons (o := ?oa5) ?hi_a5 (fun K hK => ?s_a5) ?m_a5
 case hi_a5 => (simp only [List.getElem?_toArray, List.getElem?_cons_succ, List.getElem?_cons_zero]; rfl)
 case m_a5 => exact AllReadyH.nil
 go_simp
 (go_at_call 16; (refine (text_rpS (p := q2) (s := y2.f2) (TV.out.s2.sp.rp.below (T3.b Qa4.out))).mono ?_); rintro e wta5 ⟨rfl, hb⟩; have Qa5 := Lib.hid (T3.next Qa4.out hb); clear hb)
 (try go_wp2_with fail)
 refine hK.out _ _ Qa5.out (fun hHeld => ?_)
 clear hK K
 (try simp only [Act.put, List.setIfInBounds_toArray, List.set_cons_zero, List.set_cons_succ])
 refine wpAnyH_take (i := 6) (oi := ?oa6) (v := ?va6) ?hi_a6 ?k1_a6 ?k2_a6 ?k3_a6 (fun _ _ _ h => h) (Or.inl ⟨?g_a6, ?y_a6⟩) (by assumption) ?r_a6
 case hi_a6 => (simp only [List.getElem?_toArray, List.getElem?_cons_succ, List.getElem?_cons_zero]; rfl)
 case k1_a6 => kernel_rfl
 case k2_a6 => kernel_rfl
 case k3_a6 => kernel_rfl
 case g_a6 => rfl
 case y_a6 => (intro w hSw; (try dsimp only at hSw); first | (go_simp; done) | (go_simp; with_reducible rfl))
 (try simp only [Act.put, List.setIfInBounds_toArray, List.set_cons_zero, List.set_cons_succ])
 refine wpAnyH_ready (rs := [8]) ?k1_a8 (by simp) ?r_a8
 case k1_a8 => kernel_rfl
 refine AllReadyH.cons (o := ?oa8) ?hi_a8 (fun K hK => ?s_a8) ?m_a8
 case hi_a8 => (simp only [List.getElem?_toArray, List.getElem?_cons_succ, List.getElem?_cons_zero]; rfl)
 case m_a8 => exact AllReadyH.nil
 go_simp
 (go_at_call 15; (refine (ropeG_calls y3 q3 A3 c3 B3 d3 _).mono ?_); rintro e wra8 ⟨rfl, hb⟩; have Qa8 := Lib.hid (T3.next Qa5.out hb); clear hb)
 (try go_wp2_with fail)
 refine hK.out _ _ Qa8.out (fun hHeld => ?_)
 clear hK K
 (try simp only [Act.put, List.setIfInBounds_toArray, List.set_cons_zero, List.set_cons_succ])
 refine wpAnyH_ready (rs := [9]) ?k1_a9 (by simp) ?r_a9
 case k1_a9 => kernel_rfl
 refine AllReadyH.cons (o := ?oa9) ?hi_a9 (fun K hK => ?s_a9) ?m_a9
 case hi_a9 => (simp only [List.getElem?_toArray, List.getElem?_cons_succ, List.getElem?_cons_zero]; rfl)
 case m_a9 => exact AllReadyH.nil
 go_simp
 (go_at_call 16; (refine (text_rpS (p := q3) (s := y3.f2) (TV.out.s3.sp.rp.below (T3.b Qa8.out))).mono ?_); rintro e wta9 ⟨rfl, hb⟩; have Qa9 := Lib.hid (T3.next Qa8.out hb); clear hb)
 (try go_wp2_with fail)
 refine hK.out _ _ Qa9.out (fun hHeld => ?_)
 clear hK K
 (try simp only [Act.put, List.setIfInBounds_toArray, List.set_cons_zero, List.set_cons_succ])
 refine wpAnyH_take (i := 10) (oi := ?oa10) (v := ?va10) ?hi_a10 ?k1_a10 ?k2_a10 ?k3_a10 (fun _ _ _ h => h) (Or.inl ⟨?g_a10, ?y_a10⟩) (by assumption) ?r_a10
 case hi_a10 => (simp only [List.getElem?_toArray, List.getElem?_cons_succ, List.getElem?_cons_zero]; rfl)
 case k1_a10 => kernel_rfl
 case k2_a10 => kernel_rfl
 case k3_a10 => kernel_rfl
 case g_a10 => rfl
 case y_a10 => (intro w hSw; (try dsimp only at hSw); first | (go_simp; done) | (go_simp; with_reducible rfl))
 (try simp only [Act.put, List.setIfInBounds_toArray, List.set_cons_zero, List.set_cons_succ])
 refine wpAnyH_take (i := 11) (oi := ?oa11) (v := ?va11) ?hi_a11 ?k1_a11 ?k2_a11 ?k3_a11 (fun _ _ _ h => h) (Or.inl ⟨?g_a11, ?y_a11⟩) (by assumption) ?r_a11
 case hi_a11 => (simp only [List.getElem?_toArray, List.getElem?_cons_succ, List.getElem?_cons_zero]; rfl)
 case k1_a11 => kernel_rfl
 case k2_a11 => kernel_rfl
 case k3_a11 => kernel_rfl
 case g_a11 => rfl
 case y_a11 => (intro w hSw; (try dsimp only at hSw); first | (go_simp; done) | (go_simp; with_reducible rfl))
 (try simp only [Act.put, List.setIfInBounds_toArray, List.set_cons_zero, List.set_cons_succ])
 refine wpAnyH_done (by kernel_rfl) ?_ _
 refine NoPanic.normal ?_
 have QF := Qa9
 clear QD Qa1 Qa2 Qa4 Qa5 Qa8 Qa9
 have Z1 := Lib.hid (ZV.out.next (T3.b QF.out))
 clear QF hHeld ZV TV ee n1 n2 n3 ES ET HY HC
 go_upto_region 4 with fail
 have x0 := (blk_cell Z1.out.h2 0).trans rfl
 have x1 := (blk_cell Z1.out.h2 1).trans rfl
 have x2 := (blk_cell Z1.out.h2 2).trans rfl
 have x3 := (blk_cell Z1.out.h2 3).trans rfl
 have x4 := (blk_cell Z1.out.h2 4).trans rfl
 have d0 := (blk_cell Z1.out.h3 0).trans rfl
 have d1 := (blk_cell Z1.out.h3 1).trans rfl
 have d2 := (blk_cell Z1.out.h3 2).trans rfl
 have d3 := (blk_cell Z1.out.h3 3).trans rfl
 have d4 := (blk_cell Z1.out.h3 4).trans rfl
 obtain ⟨lb, hlb⟩ : ∃ b, b = loadOk x y.f4 := ⟨_, rfl⟩
 have HLB := Lib.hid hlb
 clear hlb
 cases lb with
 | false =>
  go_upto_region 5 with (first | (go_at_call 18; refine (loaded5_calls x A c B d y _ (HT.out.below Z1.out.b) (HR.out.below Z1.out.b) hy).mono ?_; rw [← HLB.out]; simp only [Bool.false_eq_true, if_false]; rintro e wl ⟨rfl, hb⟩; have ZL := Lib.hid (Z1.out.next hb); clear hb))
  go_wp2
  go_ret
  exact ⟨rfl, below_alloc ZL.out.b _⟩
 | true =>
  obtain ⟨hsm, hok⟩ := loadOk_iff HLB.out.symm
  have HO := Lib.hid hok
  have HSM := Lib.hid (small_iff hsm)
  clear hsm hok
  go_upto_region 5 with (first | (go_at_call 18; refine (loaded5_calls x A c B d y _ (HT.out.below Z1.out.b) (HR.out.below Z1.out.b) hy).mono ?_; rw [← HLB.out]; simp only [if_true]; rintro e wl ⟨p, A5, c5, B5, d5, rfl, sl, hb⟩; have ZL := Lib.hid (Z1.out.next hb); have SL := Lib.hid sl; clear hb sl))
  refine gen2 (φ := fun W => Code.wp _ _ _ _ W) (P := fun W => JZ w x A c B d y W ∧ SB wl.heap.size x p A5 c5 B5 d5 W) ⟨ZL.out.next (below_alloc (Below.refl _ _) _), ⟨SL.out.below (below_alloc (Below.refl _ _) _), blk_new wl _⟩⟩ ?_
  rintro W1 ⟨hz, hs⟩
  have ZW := Lib.hid hz
  have SW := Lib.hid hs
  have s0 := (blk_cell hs.h 0).trans rfl
  have s1 := (blk_cell hs.h 1).trans rfl
  have s2 := (blk_cell hs.h 2).trans rfl
  have s3 := (blk_cell hs.h 3).trans rfl
  have s4 := (blk_cell hs.h 4).trans rfl
  clear x0 x1 x2 x3 x4 d0 d1 d2 d3 d4
  have u0 := (blk_cell hz.h3 0).trans rfl
  have u1 := (blk_cell hz.h3 1).trans rfl
  clear hz hs ZL SL Z1
  generalize wl.heap.size = gS at *
  have hin := cnt_in (okB_true HO.out.v).1 HO.out.z.s2
  have hcl := clamp_in (a := y.f0) hin.1
  obtain ⟨a, ha⟩ : ∃ a, a = clampI (cnt x.f2) y.f0 := ⟨_, rfl⟩
  rw [← ha] at hcl
  have hln := len_in (n := y.f1) hcl.2
  obtain ⟨b, hb_⟩ : ∃ b, b = a + lenI (cnt x.f2) a y.f1 := ⟨_, rfl⟩
  rw [← hb_] at hln
  obtain ⟨z1, hz1⟩ : ∃ y : G, y = pt1 x a := ⟨_, rfl⟩
  obtain ⟨z2, hz2⟩ : ∃ y : G, y = pt2 x a b 1 3 := ⟨_, rfl⟩
  obtain ⟨z3, hz3⟩ : ∃ y : G, y = pt3 x a b 2 := ⟨_, rfl⟩
  have HAB := Lib.hid (And.intro ha hb_)
  have HZ := Lib.hid (And.intro hz1 (And.intro hz2 hz3))
  have ET := Lib.hid (show z1.f2 ++ z2.f2 ++ z3.f2 = x.f2 by
   rw [hz1, hz2, hz3]
   exact cut_three (okB_true HO.out.v).1 HO.out.z.s2 hcl.1 (by omega) hln.2)
  have ES := Lib.hid (show z1.f2.size + z2.f2.size + z3.f2.size = x.f2.size by
   have := congrArg ByteArray.size ET.out
   rw [ByteArray.size_append, ByteArray.size_append] at this
   exact this)
  have EI := Lib.hid (show z1.f0 = x.f0 ∧ z2.f1 = 3 ∧ z2.f3.length = 0 ∧ z2.f4.length = 0 by rw [hz1, hz2]; exact ⟨rfl, rfl, rfl, rfl⟩)
  have SZ2 := Lib.hid (show Sz z2 by
   rw [hz2]
   exact ⟨Nat.le_trans (cut_le (okB_true HO.out.v).1 a b) HO.out.z.s2, (by show (0 : Nat) ≤ _; omega), (by show (0 : Nat) ≤ _; omega)⟩)
  clear hz1 hz2 hz3 ha hb_ hin hcl hln
  go_upto_region 6 with fail
  go_upto_region 8 with (first | (go_at_call 20; refine (segPart_calls x p A5 c5 B5 d5 y.f0 y.f1 1 2 3 _ SW.out.sp HO.out.z.s2 HO.out.z.s3 HO.out.z.s4 HAB.out.1 HAB.out.2).mono ?_; rw [← HZ.out.1, ← HZ.out.2.1, ← HZ.out.2.2]; rintro e w2 ⟨q1, A1, c1, B1, d1, q2, q3, A3, c3, B3, d3, rfl, s1, s2, s3, hb⟩; have S1 := Lib.hid s1; have S2 := Lib.hid s2; have S3 := Lib.hid s3; have Z2 := Lib.hid (ZW.out.next hb); clear s1 s2 s3 hb))
  refine gen2 (φ := fun W => Code.wp _ _ _ _ W) (P := fun W => JZ w x A c B d y W ∧ TZ w2.heap.size (w2.heap.size + 1) (w2.heap.size + 1 + 1) z1 q1 A1 c1 B1 d1 z2 q2 none 0 none 0 z3 q3 A3 c3 B3 d3 W) ⟨Z2.out.next (below_alloc (below_alloc (below_alloc (Below.refl _ _) _) _) _), TZ.new S1.out S2.out S3.out⟩ ?_
  rintro V ⟨hz, ht⟩
  have ZV := Lib.hid hz
  have TV := Lib.hid ht
  have t0 := (blk_cell ht.s2.h 0).trans rfl
  have t1 := (blk_cell ht.s2.h 1).trans rfl
  have t2 := (blk_cell ht.s2.h 2).trans rfl
  have t3 := (blk_cell ht.s2.h 3).trans rfl
  have t4 := (blk_cell ht.s2.h 4).trans rfl
  clear hz ht Z2 S1 S2 S3 s0 s1 s2 s3 s4 u0 u1 ZW SW
  generalize w2.heap.size = k at *
  go_upto_region 9 with (first | (go_at_call 21; refine (plainG_calls z2 q2 none 0 none 0 _ TV.out.s2.sp SZ2.out).mono ?_; rintro e w9 ⟨A9, c9, B9, d9, rfl, r3, r4, hb⟩; have Z9 := Lib.hid (ZV.out.next hb); have T9 := Lib.hid (TV.out.next hb); clear hb r3 r4))
  refine gen2 (φ := fun W => Code.wp _ _ _ _ W) (P := fun W => JZ w x A c B d y W ∧ TZ k (k + 1) (k + 1 + 1) z1 q1 A1 c1 B1 d1 z2 q2 none 0 none 0 z3 q3 A3 c3 B3 d3 W ∧ W.heap[w9.heap.size]? = some (.cells (gC z2 A9 c9 B9 d9) 25 (0, 0))) ⟨Z9.out.next (below_alloc (Below.refl _ _) _), T9.out.next (below_alloc (Below.refl _ _) _), blk_new w9 _⟩ ?_
  clear t0 t1 t2 t3 t4 Z9 T9 TV ZV V W1
  rintro V ⟨hz, ht, hp⟩
  have ZV := Lib.hid hz
  have TV := Lib.hid ht
  have QD := Lib.hid (show T5 V k (k + 1) (k + 1 + 1) z1 q1 A1 c1 B1 d1 z2 q2 none 0 none 0 z3 q3 A3 c3 B3 d3 w.heap.size x w9.heap.size (.slice A9 0 c9) (.slice B9 0 d9) V.drew from
   T5.next ⟨T3.of ht (Below.refl _ _), (blk_cell hz.h2 0).trans rfl, (blk_cell hz.h2 2).trans rfl, (blk_cell hp 3).trans (by show some (Value.slice A9 z2.f3.length c9) = _; rw [EI.out.2.2.1]), (blk_cell hp 4).trans (by show some (Value.slice B9 z2.f4.length d9) = _; rw [EI.out.2.2.2])⟩ (by with_reducible repeat (first | exact Below.refl _ _ | apply pw_below_drewN | apply Below.drew)))
  clear hz ht hp
  generalize w9.heap.size = gP at *
  have ee := ET.out
  have f1 := eq_true EI.out.1
  have f2 := eq_true EI.out.2.1
  have f3 : decide (z1.f0 = x.f0) = true := decide_eq_true EI.out.1
  have f4 : decide (z2.f1 = 3) = true := decide_eq_true EI.out.2.1
  have f5 : (z1.f0 == x.f0) = true := by rw [EI.out.1]; exact beq_self_eq_true _
  have f6 : (z2.f1 == 3) = true := by rw [EI.out.2.1]; rfl
  have n1 : ¬ (9223372036854775807 < z1.f2.size + z2.f2.size) := by have := ES.out; have := HSM.out.1; omega
  have n2 : ¬ (9223372036854775807 < (z1.f2 ++ z2.f2).size + z3.f2.size) := by rw [ByteArray.size_append]; have := ES.out; have := HSM.out.1; omega
  have n3 : ¬ (9223372036854775807 < z1.f2.size + z2.f2.size + z3.f2.size) := by have := ES.out; have := HSM.out.1; omega
  refine wp_region_noPanic ?_
  refine wp_region_held_drew (S := (fun w' => T5 V k (k + 1) (k + 1 + 1) z1 q1 A1 c1 B1 d1 z2 q2 none 0 none 0 z3 q3 A3 c3 B3 d3 w.heap.size x gP (.slice A9 0 c9) (.slice B9 0 d9) w')) ?hm_b ?hS_b (fun hHeld => ?_)
  case hm_b => kernel_rfl
  case hS_b => exact QD.out
  refine wpAnyH_take (i := 0) (oi := ?ob0) (v := ?vb0) ?hi_b0 ?k1_b0 ?k2_b0 ?k3_b0 (fun _ _ _ h => h) (Or.inl ⟨?g_b0, ?y_b0⟩) (by assumption) ?r_b0
  case hi_b0 => (simp only [List.getElem?_toArray, List.getElem?_cons_succ, List.getElem?_cons_zero]; rfl)
  case k1_b0 => kernel_rfl
  case k2_b0 => kernel_rfl
  case k3_b0 => kernel_rfl
  case g_b0 => rfl
  case y_b0 => (intro w hSw; (try dsimp only at hSw); first | (go_simp; done) | (go_simp; with_reducible rfl))
  (try simp only [Act.put, List.setIfInBounds_toArray, List.set_cons_zero, List.set_cons_succ])
  refine wpAnyH_take (i := 3) (oi := ?ob3) (v := ?vb3) ?hi_b3 ?k1_b3 ?k2_b3 ?k3_b3 (fun _ _ _ h => h) (Or.inl ⟨?g_b3, ?y_b3⟩) (by assumption) ?r_b3
  case hi_b3 => (simp only [List.getElem?_toArray, List.getElem?_cons_succ, List.getElem?_cons_zero]; rfl)
  case k1_b3 => kernel_rfl
  case k2_b3 => kernel_rfl
  case k3_b3 => kernel_rfl
  case g_b3 => rfl
  case y_b3 => (intro w hSw; (try dsimp only at hSw); first | (go_simp; done) | (go_simp; with_reducible rfl))
  (try simp only [Act.put, List.setIfInBounds_toArray, List.set_cons_zero, List.set_cons_succ])
  refine wpAnyH_take (i := 7) (oi := ?ob7) (v := ?vb7) ?hi_b7 ?k1_b7 ?k2_b7 ?k3_b7 (fun _ _ _ h => h) (Or.inl ⟨?g_b7, ?y_b7⟩) (by assumption) ?r_b7
  case hi_b7 => (simp only [List.getElem?_toArray, List.getElem?_cons_succ, List.getElem?_cons_zero]; rfl)
  case k1_b7 => kernel_rfl
  case k2_b7 => kernel_rfl
  case k3_b7 => kernel_rfl
  case g_b7 => rfl
  case y_b7 => (intro w hSw; (try dsimp only at hSw); first | (go_simp; done) | (go_simp; with_reducible rfl))
  (try simp only [Act.put, List.setIfInBounds_toArray, List.set_cons_zero, List.set_cons_succ])
  refine wpAnyH_take (i := 11) (oi := ?ob11) (v := ?vb11) ?hi_b11 ?k1_b11 ?k2_b11 ?k3_b11 (fun _ _ _ h => h) (Or.inl ⟨?g_b11, ?y_b11⟩) (by assumption) ?r_b11
  case hi_b11 => (simp only [List.getElem?_toArray, List.getElem?_cons_succ, List.getElem?_cons_zero]; rfl)
  case k1_b11 => kernel_rfl
  case k2_b11 => kernel_rfl
  case k3_b11 => kernel_rfl
  case g_b11 => rfl
  case y_b11 => (intro w hSw; (try dsimp only at hSw); first | (go_simp; done) | (go_simp; with_reducible rfl))
  (try simp only [Act.put, List.setIfInBounds_toArray, List.set_cons_zero, List.set_cons_succ])
  refine wpAnyH_take (i := 12) (oi := ?ob12) (v := ?vb12) ?hi_b12 ?k1_b12 ?k2_b12 ?k3_b12 (fun _ _ _ h => h) (Or.inl ⟨?g_b12, ?y_b12⟩) (by assumption) ?r_b12
  case hi_b12 => (simp only [List.getElem?_toArray, List.getElem?_cons_succ, List.getElem?_cons_zero]; rfl)
  case k1_b12 => kernel_rfl
  case k2_b12 => kernel_rfl
  case k3_b12 => kernel_rfl
  case g_b12 => rfl
  case y_b12 => (intro w hSw; (try dsimp only at hSw); first | (go_simp; done) | (go_simp; with_reducible rfl))
  (try simp only [Act.put, List.setIfInBounds_toArray, List.set_cons_zero, List.set_cons_succ])
  refine wpAnyH_ready (rs := [1]) ?k1_b1 (by simp) ?r_b1
  case k1_b1 => kernel_rfl
  refine AllReadyH.cons (o := ?ob1) ?hi_b1 (fun K hK => ?s_b1) ?m_b1
  case hi_b1 => (simp only [List.getElem?_toArray, List.getElem?_cons_succ, List.getElem?_cons_zero]; rfl)
  case m_b1 => exact AllReadyH.nil
  go_simp
  (go_at_call 15; (refine (ropeG_calls z1 q1 A1 c1 B1 d1 _).mono ?_); rintro e wrb1 ⟨rfl, hb⟩; have Qb1 := Lib.hid (T5.next QD.out hb); clear hb)
  (try go_wp2_with fail)
  refine hK.out _ _ Qb1.out (fun hHeld => ?_)
  clear hK K
  (try simp only [Act.put, List.setIfInBounds_toArray, List.set_cons_zero, List.set_cons_succ])
  refine wpAnyH_ready (rs := [2]) ?k1_b2 (by simp) ?r_b2
  case k1_b2 => kernel_rfl
  refine AllReadyH.cons (o := ?ob2) ?hi_b2 (fun K hK => ?s_b2) ?m_b2
  case hi_b2 => (simp only [List.getElem?_toArray, List.getElem?_cons_succ, List.getElem?_cons_zero]; rfl)
  case m_b2 => exact AllReadyH.nil
  go_simp
  (go_at_call 16; (refine (text_rpS (p := q1) (s := z1.f2) (TV.out.s1.sp.rp.below (T5.b Qb1.out))).mono ?_); rintro e wtb2 ⟨rfl, hb⟩; have Qb2 := Lib.hid (T5.next Qb1.out hb); clear hb)
  (try go_wp2_with fail)
  refine hK.out _ _ Qb2.out (fun hHeld => ?_)
  clear hK K
  (try simp only [Act.put, List.setIfInBounds_toArray, List.set_cons_zero, List.set_cons_succ])
  refine wpAnyH_ready (rs := [4]) ?k1_b4 (by simp) ?r_b4
  case k1_b4 => kernel_rfl
  refine AllReadyH.cons (o := ?ob4) ?hi_b4 (fun K hK => ?s_b4) ?m_b4
  case hi_b4 => (simp only [List.getElem?_toArray, List.getElem?_cons_succ, List.getElem?_cons_zero]; rfl)
  case m_b4 => exact AllReadyH.nil
  go_simp
  (go_at_call 15; (refine (ropeG_calls z2 q2 none 0 none 0 _).mono ?_); rintro e wrb4 ⟨rfl, hb⟩; have Qb4 := Lib.hid (T5.next Qb2.out hb); clear hb)
  (try go_wp2_with fail)
  refine hK.out _ _ Qb4.out (fun hHeld => ?_)
  clear hK K
  (try simp only [Act.put, List.setIfInBounds_toArray, List.set_cons_zero, List.set_cons_succ])
  refine wpAnyH_ready (rs := [5]) ?k1_b5 (by simp) ?r_b5
  case k1_b5 => kernel_rfl
  refine AllReadyH.cons (o := ?ob5) ?hi_b5 (fun K hK => ?s_b5) ?m_b5
  case hi_b5 => (simp only [List.getElem?_toArray, List.getElem?_cons_succ, List.getElem?_cons_zero]; rfl)
  case m_b5 => exact AllReadyH.nil
  go_simp
  (go_at_call 16; (refine (text_rpS (p := q2) (s := z2.f2) (TV.out.s2.sp.rp.below (T5.b Qb4.out))).mono ?_); rintro e wtb5 ⟨rfl, hb⟩; have Qb5 := Lib.hid (T5.next Qb4.out hb); clear hb)
  (try go_wp2_with fail)
  refine hK.out _ _ Qb5.out (fun hHeld => ?_)
  clear hK K
  (try simp only [Act.put, List.setIfInBounds_toArray, List.set_cons_zero, List.set_cons_succ])
  refine wpAnyH_take (i := 6) (oi := ?ob6) (v := ?vb6) ?hi_b6 ?k1_b6 ?k2_b6 ?k3_b6 (fun _ _ _ h => h) (Or.inl ⟨?g_b6, ?y_b6⟩) (by assumption) ?r_b6
  case hi_b6 => (simp only [List.getElem?_toArray, List.getElem?_cons_succ, List.getElem?_cons_zero]; rfl)
  case k1_b6 => kernel_rfl
  case k2_b6 => kernel_rfl
  case k3_b6 => kernel_rfl
  case g_b6 => rfl
  case y_b6 => (intro w hSw; (try dsimp only at hSw); first | (go_simp; done) | (go_simp; with_reducible rfl))
  (try simp only [Act.put, List.setIfInBounds_toArray, List.set_cons_zero, List.set_cons_succ])
  refine wpAnyH_ready (rs := [8]) ?k1_b8 (by simp) ?r_b8
  case k1_b8 => kernel_rfl
  refine AllReadyH.cons (o := ?ob8) ?hi_b8 (fun K hK => ?s_b8) ?m_b8
  case hi_b8 => (simp only [List.getElem?_toArray, List.getElem?_cons_succ, List.getElem?_cons_zero]; rfl)
  case m_b8 => exact AllReadyH.nil
  go_simp
  (go_at_call 15; (refine (ropeG_calls z3 q3 A3 c3 B3 d3 _).mono ?_); rintro e wrb8 ⟨rfl, hb⟩; have Qb8 := Lib.hid (T5.next Qb5.out hb); clear hb)
  (try go_wp2_with fail)
  refine hK.out _ _ Qb8.out (fun hHeld => ?_)
  clear hK K
  (try simp only [Act.put, List.setIfInBounds_toArray, List.set_cons_zero, List.set_cons_succ])
  refine wpAnyH_ready (rs := [9]) ?k1_b9 (by simp) ?r_b9
  case k1_b9 => kernel_rfl
  refine AllReadyH.cons (o := ?ob9) ?hi_b9 (fun K hK => ?s_b9) ?m_b9
  case hi_b9 => (simp only [List.getElem?_toArray, List.getElem?_cons_succ, List.getElem?_cons_zero]; rfl)
  case m_b9 => exact AllReadyH.nil
  go_simp
  (go_at_call 16; (refine (text_rpS (p := q3) (s := z3.f2) (TV.out.s3.sp.rp.below (T5.b Qb8.out))).mono ?_); rintro e wtb9 ⟨rfl, hb⟩; have Qb9 := Lib.hid (T5.next Qb8.out hb); clear hb)
  (try go_wp2_with fail)
  refine hK.out _ _ Qb9.out (fun hHeld => ?_)
  clear hK K
  (try simp only [Act.put, List.setIfInBounds_toArray, List.set_cons_zero, List.set_cons_succ])
  refine wpAnyH_take (i := 10) (oi := ?ob10) (v := ?vb10) ?hi_b10 ?k1_b10 ?k2_b10 ?k3_b10 (fun _ _ _ h => h) (Or.inl ⟨?g_b10, ?y_b10⟩) (by assumption) ?r_b10
  case hi_b10 => (simp only [List.getElem?_toArray, List.getElem?_cons_succ, List.getElem?_cons_zero]; rfl)
  case k1_b10 => kernel_rfl
  case k2_b10 => kernel_rfl
  case k3_b10 => kernel_rfl
  case g_b10 => rfl
  case y_b10 => (intro w hSw; (try dsimp only at hSw); first | (go_simp; done) | (go_simp; with_reducible rfl))
  (try simp only [Act.put, List.setIfInBounds_toArray, List.set_cons_zero, List.set_cons_succ])
  refine wpAnyH_take (i := 13) (oi := ?ob13) (v := ?vb13) ?hi_b13 ?k1_b13 ?k2_b13 ?k3_b13 (fun _ _ _ h => h) (Or.inl ⟨?g_b13, ?y_b13⟩) (by assumption) ?r_b13
  case hi_b13 => (simp only [List.getElem?_toArray, List.getElem?_cons_succ, List.getElem?_cons_zero]; rfl)
  case k1_b13 => kernel_rfl
  case k2_b13 => kernel_rfl
  case k3_b13 => kernel_rfl
  case g_b13 => rfl
  case y_b13 => (intro w hSw; (try dsimp only at hSw); first | (go_simp; done) | (go_simp; with_reducible rfl))
  (try simp only [Act.put, List.setIfInBounds_toArray, List.set_cons_zero, List.set_cons_succ])
  refine wpAnyH_take (i := 14) (oi := ?ob14) (v := ?vb14) ?hi_b14 ?k1_b14 ?k2_b14 ?k3_b14 (fun _ _ _ h => h) (Or.inl ⟨?g_b14, ?y_b14⟩) (by assumption) ?r_b14
  case hi_b14 => (simp only [List.getElem?_toArray, List.getElem?_cons_succ, List.getElem?_cons_zero]; rfl)
  case k1_b14 => kernel_rfl
  case k2_b14 => kernel_rfl
  case k3_b14 => kernel_rfl
  case g_b14 => rfl
  case y_b14 => (intro w hSw; (try dsimp only at hSw); first | (go_simp; done) | (go_simp; with_reducible rfl))
  (try simp only [Act.put, List.setIfInBounds_toArray, List.set_cons_zero, List.set_cons_succ])
  refine wpAnyH_take (i := 15) (oi := ?ob15) (v := ?vb15) ?hi_b15 ?k1_b15 ?k2_b15 ?k3_b15 (fun _ _ _ h => h) (Or.inl ⟨?g_b15, ?y_b15⟩) (by assumption) ?r_b15
  case hi_b15 => (simp only [List.getElem?_toArray, List.getElem?_cons_succ, List.getElem?_cons_zero]; rfl)
  case k1_b15 => kernel_rfl
  case k2_b15 => kernel_rfl
  case k3_b15 => kernel_rfl
  case g_b15 => rfl
  case y_b15 => (intro w hSw; (try dsimp only at hSw); first | (go_simp; done) | (go_simp; with_reducible rfl))
  (try simp only [Act.put, List.setIfInBounds_toArray, List.set_cons_zero, List.set_cons_succ])
  refine wpAnyH_take (i := 16) (oi := ?ob16) (v := ?vb16) ?hi_b16 ?k1_b16 ?k2_b16 ?k3_b16 (fun _ _ _ h => h) (Or.inl ⟨?g_b16, ?y_b16⟩) (by assumption) ?r_b16
  case hi_b16 => (simp only [List.getElem?_toArray, List.getElem?_cons_succ, List.getElem?_cons_zero]; rfl)
  case k1_b16 => kernel_rfl
  case k2_b16 => kernel_rfl
  case k3_b16 => kernel_rfl
  case g_b16 => rfl
  case y_b16 => (intro w hSw; (try dsimp only at hSw); first | (go_simp; done) | (go_simp; with_reducible rfl))
  (try simp only [Act.put, List.setIfInBounds_toArray, List.set_cons_zero, List.set_cons_succ])
  refine wpAnyH_take (i := 17) (oi := ?ob17) (v := ?vb17) ?hi_b17 ?k1_b17 ?k2_b17 ?k3_b17 (fun _ _ _ h => h) (Or.inl ⟨?g_b17, ?y_b17⟩) (by assumption) ?r_b17
  case hi_b17 => (simp only [List.getElem?_toArray, List.getElem?_cons_succ, List.getElem?_cons_zero]; rfl)
  case k1_b17 => kernel_rfl
  case k2_b17 => kernel_rfl
  case k3_b17 => kernel_rfl
  case g_b17 => rfl
  case y_b17 => (intro w hSw; (try dsimp only at hSw); first | (go_simp; done) | (go_simp; with_reducible rfl))
  (try simp only [Act.put, List.setIfInBounds_toArray, List.set_cons_zero, List.set_cons_succ])
  refine wpAnyH_take (i := 18) (oi := ?ob18) (v := ?vb18) ?hi_b18 ?k1_b18 ?k2_b18 ?k3_b18 (fun _ _ _ h => h) (Or.inl ⟨?g_b18, ?y_b18⟩) (by assumption) ?r_b18
  case hi_b18 => (simp only [List.getElem?_toArray, List.getElem?_cons_succ, List.getElem?_cons_zero]; rfl)
  case k1_b18 => kernel_rfl
  case k2_b18 => kernel_rfl
  case k3_b18 => kernel_rfl
  case g_b18 => rfl
  case y_b18 => (intro w hSw; (try dsimp only at hSw); first | (go_simp; done) | (go_simp; with_reducible rfl))
  (try simp only [Act.put, List.setIfInBounds_toArray, List.set_cons_zero, List.set_cons_succ])
  refine wpAnyH_take (i := 19) (oi := ?ob19) (v := ?vb19) ?hi_b19 ?k1_b19 ?k2_b19 ?k3_b19 (fun _ _ _ h => h) (Or.inl ⟨?g_b19, ?y_b19⟩) (by assumption) ?r_b19
  case hi_b19 => (simp only [List.getElem?_toArray, List.getElem?_cons_succ, List.getElem?_cons_zero]; rfl)
  case k1_b19 => kernel_rfl
  case k2_b19 => kernel_rfl
  case k3_b19 => kernel_rfl
  case g_b19 => rfl
  case y_b19 => (intro w hSw; (try dsimp only at hSw); first | (go_simp; done) | (go_simp; with_reducible rfl))
  (try simp only [Act.put, List.setIfInBounds_toArray, List.set_cons_zero, List.set_cons_succ])
  refine wpAnyH_take (i := 20) (oi := ?ob20) (v := ?vb20) ?hi_b20 ?k1_b20 ?k2_b20 ?k3_b20 (fun _ _ _ h => h) (Or.inl ⟨?g_b20, ?y_b20⟩) (by assumption) ?r_b20
  case hi_b20 => (simp only [List.getElem?_toArray, List.getElem?_cons_succ, List.getElem?_cons_zero]; rfl)
  case k1_b20 => kernel_rfl
  case k2_b20 => kernel_rfl
  case k3_b20 => kernel_rfl
  case g_b20 => rfl
  case y_b20 => (intro w hSw; (try dsimp only at hSw); first | (go_simp; done) | (go_simp; with_reducible rfl))
  (try simp only [Act.put, List.setIfInBounds_toArray, List.set_cons_zero, List.set_cons_succ])
  refine wpAnyH_take (i := 21) (oi := ?ob21) (v := ?vb21) ?hi_b21 ?k1_b21 ?k2_b21 ?k3_b21 (fun _ _ _ h => h) (Or.inl ⟨?g_b21, ?y_b21⟩) (by assumption) ?r_b21
  case hi_b21 => (simp only [List.getElem?_toArray, List.getElem?_cons_succ, List.getElem?_cons_zero]; rfl)
  case k1_b21 => kernel_rfl
  case k2_b21 => kernel_rfl
  case k3_b21 => kernel_rfl
  case g_b21 => rfl
  case y_b21 => (intro w hSw; (try dsimp only at hSw); first | (go_simp; done) | (go_simp; with_reducible rfl))
  (try simp only [Act.put, List.setIfInBounds_toArray, List.set_cons_zero, List.set_cons_succ])
  refine wpAnyH_take (i := 22) (oi := ?ob22) (v := ?vb22) ?hi_b22 ?k1_b22 ?k2_b22 ?k3_b22 (fun _ _ _ h => h) (Or.inl ⟨?g_b22, ?y_b22⟩) (by assumption) ?r_b22
  case hi_b22 => (simp only [List.getElem?_toArray, List.getElem?_cons_succ, List.getElem?_cons_zero]; rfl)
  case k1_b22 => kernel_rfl
  case k2_b22 => kernel_rfl
  case k3_b22 => kernel_rfl
  case g_b22 => rfl
  case y_b22 => (intro w hSw; (try dsimp only at hSw); first | (go_simp; done) | (go_simp; with_reducible rfl))
  (try simp only [Act.put, List.setIfInBounds_toArray, List.set_cons_zero, List.set_cons_succ])
  refine wpAnyH_take (i := 23) (oi := ?ob23) (v := ?vb23) ?hi_b23 ?k1_b23 ?k2_b23 ?k3_b23 (fun _ _ _ h => h) (Or.inl ⟨?g_b23, ?y_b23⟩) (by assumption) ?r_b23
  case hi_b23 => (simp only [List.getElem?_toArray, List.getElem?_cons_succ, List.getElem?_cons_zero]; rfl)
  case k1_b23 => kernel_rfl
  case k2_b23 => kernel_rfl
  case k3_b23 => kernel_rfl
  case g_b23 => rfl
  case y_b23 => (intro w hSw; (try dsimp only at hSw); first | (go_simp; done) | (go_simp; with_reducible rfl))
  (try simp only [Act.put, List.setIfInBounds_toArray, List.set_cons_zero, List.set_cons_succ])
  refine wpAnyH_take (i := 24) (oi := ?ob24) (v := ?vb24) ?hi_b24 ?k1_b24 ?k2_b24 ?k3_b24 (fun _ _ _ h => h) (Or.inl ⟨?g_b24, ?y_b24⟩) (by assumption) ?r_b24
  case hi_b24 => (simp only [List.getElem?_toArray, List.getElem?_cons_succ, List.getElem?_cons_zero]; rfl)
  case k1_b24 => kernel_rfl
  case k2_b24 => kernel_rfl
  case k3_b24 => kernel_rfl
  case g_b24 => rfl
  case y_b24 => (intro w hSw; (try dsimp only at hSw); first | (go_simp; done) | (go_simp; with_reducible rfl))
  (try simp only [Act.put, List.setIfInBounds_toArray, List.set_cons_zero, List.set_cons_succ])
  refine wpAnyH_take (i := 25) (oi := ?ob25) (v := ?vb25) ?hi_b25 ?k1_b25 ?k2_b25 ?k3_b25 (fun _ _ _ h => h) (Or.inl ⟨?g_b25, ?y_b25⟩) (by assumption) ?r_b25
  case hi_b25 => (simp only [List.getElem?_toArray, List.getElem?_cons_succ, List.getElem?_cons_zero]; rfl)
  case k1_b25 => kernel_rfl
  case k2_b25 => kernel_rfl
  case k3_b25 => kernel_rfl
  case g_b25 => rfl
  case y_b25 => (intro w hSw; (try dsimp only at hSw); first | (go_simp; done) | (go_simp; with_reducible rfl))
  (try simp only [Act.put, List.setIfInBounds_toArray, List.set_cons_zero, List.set_cons_succ])
  refine wpAnyH_take (i := 26) (oi := ?ob26) (v := ?vb26) ?hi_b26 ?k1_b26 ?k2_b26 ?k3_b26 (fun _ _ _ h => h) (Or.inl ⟨?g_b26, ?y_b26⟩) (by assumption) ?r_b26
  case hi_b26 => (simp only [List.getElem?_toArray, List.getElem?_cons_succ, List.getElem?_cons_zero]; rfl)
  case k1_b26 => kernel_rfl
  case k2_b26 => kernel_rfl
  case k3_b26 => kernel_rfl
  case g_b26 => rfl
  case y_b26 => (intro w hSw; (try dsimp only at hSw); first | (go_simp; done) | (go_simp; with_reducible rfl))
  (try simp only [Act.put, List.setIfInBounds_toArray, List.set_cons_zero, List.set_cons_succ])
  refine wpAnyH_take (i := 27) (oi := ?ob27) (v := ?vb27) ?hi_b27 ?k1_b27 ?k2_b27 ?k3_b27 (fun _ _ _ h => h) (Or.inl ⟨?g_b27, ?y_b27⟩) (by assumption) ?r_b27
  case hi_b27 => (simp only [List.getElem?_toArray, List.getElem?_cons_succ, List.getElem?_cons_zero]; rfl)
  case k1_b27 => kernel_rfl
  case k2_b27 => kernel_rfl
  case k3_b27 => kernel_rfl
  case g_b27 => rfl
  case y_b27 => (intro w hSw; (try dsimp only at hSw); first | (go_simp; done) | (go_simp; with_reducible rfl))
  (try simp only [Act.put, List.setIfInBounds_toArray, List.set_cons_zero, List.set_cons_succ])
  refine wpAnyH_take (i := 29) (oi := ?ob29) (v := ?vb29) ?hi_b29 ?k1_b29 ?k2_b29 ?k3_b29 (fun _ _ _ h => h) (Or.inl ⟨?g_b29, ?y_b29⟩) (by assumption) ?r_b29
  case hi_b29 => (simp only [List.getElem?_toArray, List.getElem?_cons_succ, List.getElem?_cons_zero]; rfl)
  case k1_b29 => kernel_rfl
  case k2_b29 => kernel_rfl
  case k3_b29 => kernel_rfl
  case g_b29 => rfl
  case y_b29 => (intro w hSw; (try dsimp only at hSw); first | (go_simp; done) | (go_simp; with_reducible rfl))
  (try simp only [Act.put, List.setIfInBounds_toArray, List.set_cons_zero, List.set_cons_succ])
  refine wpAnyH_take (i := 30) (oi := ?ob30) (v := ?vb30) ?hi_b30 ?k1_b30 ?k2_b30 ?k3_b30 (fun _ _ _ h => h) (Or.inl ⟨?g_b30, ?y_b30⟩) (by assumption) ?r_b30
  case hi_b30 => (simp only [List.getElem?_toArray, List.getElem?_cons_succ, List.getElem?_cons_zero]; rfl)
  case k1_b30 => kernel_rfl
  case k2_b30 => kernel_rfl
  case k3_b30 => kernel_rfl
  case g_b30 => rfl
  case y_b30 => (intro w hSw; (try dsimp only at hSw); first | (go_simp; done) | (go_simp; with_reducible rfl))
  (try simp only [Act.put, List.setIfInBounds_toArray, List.set_cons_zero, List.set_cons_succ])
  refine wpAnyH_ready (rs := [28]) ?k1_b28 (by simp) ?r_b28
  case k1_b28 => kernel_rfl
  refine AllReadyH.cons (o := ?ob28) ?hi_b28 (fun K hK => ?s_b28) ?m_b28
  case hi_b28 => (simp only [List.getElem?_toArray, List.getElem?_cons_succ, List.getElem?_cons_zero]; rfl)
  case m_b28 => exact AllReadyH.nil
  go_simp
  (go_at_call 22; (refine (id_calls z1 q1 A1 c1 B1 d1 _).mono ?_); rintro e w28 ⟨rfl, hb⟩; have Qb28 := Lib.hid (T5.next Qb9.out hb); clear hb)
  (try go_wp2_with fail)
  refine hK.out _ _ Qb28.out (fun hHeld => ?_)
  clear hK K
  (try simp only [Act.put, List.setIfInBounds_toArray, List.set_cons_zero, List.set_cons_succ])
  refine wpAnyH_take (i := 31) (oi := ?ob31) (v := ?vb31) ?hi_b31 ?k1_b31 ?k2_b31 ?k3_b31 (fun _ _ _ h => h) (Or.inl ⟨?g_b31, ?y_b31⟩) (by assumption) ?r_b31
  case hi_b31 => (simp only [List.getElem?_toArray, List.getElem?_cons_succ, List.getElem?_cons_zero]; rfl)
  case k1_b31 => kernel_rfl
  case k2_b31 => kernel_rfl
  case k3_b31 => kernel_rfl
  case g_b31 => rfl
  case y_b31 => (intro w hSw; (try dsimp only at hSw); first | (go_simp; done) | (go_simp; with_reducible rfl))
  (try simp only [Act.put, List.setIfInBounds_toArray, List.set_cons_zero, List.set_cons_succ])
  refine wpAnyH_take (i := 32) (oi := ?ob32) (v := ?vb32) ?hi_b32 ?k1_b32 ?k2_b32 ?k3_b32 (fun _ _ _ h => h) (Or.inl ⟨?g_b32, ?y_b32⟩) (by assumption) ?r_b32
  case hi_b32 => (simp only [List.getElem?_toArray, List.getElem?_cons_succ, List.getElem?_cons_zero]; rfl)
  case k1_b32 => kernel_rfl
  case k2_b32 => kernel_rfl
  case k3_b32 => kernel_rfl
  case g_b32 => rfl
  case y_b32 => (intro w hSw; (try dsimp only at hSw); first | (go_simp; done) | (go_simp; with_reducible rfl))
  (try simp only [Act.put, List.setIfInBounds_toArray, List.set_cons_zero, List.set_cons_succ])
  refine wpAnyH_take (i := 33) (oi := ?ob33) (v := ?vb33) ?hi_b33 ?k1_b33 ?k2_b33 ?k3_b33 (fun _ _ _ h => h) (Or.inl ⟨?g_b33, ?y_b33⟩) (by assumption) ?r_b33
  case hi_b33 => (simp only [List.getElem?_toArray, List.getElem?_cons_succ, List.getElem?_cons_zero]; rfl)
  case k1_b33 => kernel_rfl
  case k2_b33 => kernel_rfl
  case k3_b33 => kernel_rfl
  case g_b33 => rfl
  case y_b33 => (intro w hSw; (try dsimp only at hSw); first | (go_simp; done) | (go_simp; with_reducible rfl))
  (try simp only [Act.put, List.setIfInBounds_toArray, List.set_cons_zero, List.set_cons_succ])
  refine wpAnyH_take (i := 34) (oi := ?ob34) (v := ?vb34) ?hi_b34 ?k1_b34 ?k2_b34 ?k3_b34 (fun _ _ _ h => h) (Or.inl ⟨?g_b34, ?y_b34⟩) (by assumption) ?r_b34
  case hi_b34 => (simp only [List.getElem?_toArray, List.getElem?_cons_succ, List.getElem?_cons_zero]; rfl)
  case k1_b34 => kernel_rfl
  case k2_b34 => kernel_rfl
  case k3_b34 => kernel_rfl
  case g_b34 => rfl
  case y_b34 => (intro w hSw; (try dsimp only at hSw); first | (go_simp; done) | (go_simp; with_reducible rfl))
  (try simp only [Act.put, List.setIfInBounds_toArray, List.set_cons_zero, List.set_cons_succ])
  refine wpAnyH_ready (rs := [35]) ?k1_b35 (by simp) ?r_b35
  case k1_b35 => kernel_rfl
  refine AllReadyH.cons (o := ?ob35) ?hi_b35 (fun K hK => ?s_b35) ?m_b35
  case hi_b35 => (simp only [List.getElem?_toArray, List.getElem?_cons_succ, List.getElem?_cons_zero]; rfl)
  case m_b35 => exact AllReadyH.nil
  go_simp
  (go_at_call 23; (refine (labelG_calls z2 q2 none 0 none 0 _).mono ?_); rintro e w35 ⟨rfl, hb⟩; have Qb35 := Lib.hid (T5.next Qb28.out hb); clear hb)
  (try go_wp2_with fail)
  refine hK.out _ _ Qb35.out (fun hHeld => ?_)
  clear hK K
  (try simp only [Act.put, List.setIfInBounds_toArray, List.set_cons_zero, List.set_cons_succ])
  refine wpAnyH_take (i := 36) (oi := ?ob36) (v := ?vb36) ?hi_b36 ?k1_b36 ?k2_b36 ?k3_b36 (fun _ _ _ h => h) (Or.inl ⟨?g_b36, ?y_b36⟩) (by assumption) ?r_b36
  case hi_b36 => (simp only [List.getElem?_toArray, List.getElem?_cons_succ, List.getElem?_cons_zero]; rfl)
  case k1_b36 => kernel_rfl
  case k2_b36 => kernel_rfl
  case k3_b36 => kernel_rfl
  case g_b36 => rfl
  case y_b36 => (intro w hSw; (try dsimp only at hSw); first | (go_simp; done) | (go_simp; with_reducible rfl))
  (try simp only [Act.put, List.setIfInBounds_toArray, List.set_cons_zero, List.set_cons_succ])
  refine wpAnyH_take (i := 37) (oi := ?ob37) (v := ?vb37) ?hi_b37 ?k1_b37 ?k2_b37 ?k3_b37 (fun _ _ _ h => h) (Or.inl ⟨?g_b37, ?y_b37⟩) (by assumption) ?r_b37
  case hi_b37 => (simp only [List.getElem?_toArray, List.getElem?_cons_succ, List.getElem?_cons_zero]; rfl)
  case k1_b37 => kernel_rfl
  case k2_b37 => kernel_rfl
  case k3_b37 => kernel_rfl
  case g_b37 => rfl
  case y_b37 => (intro w hSw; (try dsimp only at hSw); first | (go_simp; done) | (go_simp; with_reducible rfl))
  (try simp only [Act.put, List.setIfInBounds_toArray, List.set_cons_zero, List.set_cons_succ])
  refine wpAnyH_take (i := 38) (oi := ?ob38) (v := ?vb38) ?hi_b38 ?k1_b38 ?k2_b38 ?k3_b38 (fun _ _ _ h => h) (Or.inl ⟨?g_b38, ?y_b38⟩) (by assumption) ?r_b38
  case hi_b38 => (simp only [List.getElem?_toArray, List.getElem?_cons_succ, List.getElem?_cons_zero]; rfl)
  case k1_b38 => kernel_rfl
  case k2_b38 => kernel_rfl
  case k3_b38 => kernel_rfl
  case g_b38 => rfl
  case y_b38 => (intro w hSw; (try dsimp only at hSw); first | (go_simp; done) | (go_simp; with_reducible rfl))
  (try simp only [Act.put, List.setIfInBounds_toArray, List.set_cons_zero, List.set_cons_succ])
  refine wpAnyH_done (by kernel_rfl) ?_ _
  refine NoPanic.normal ?_
  go_wp2
  go_ret
  exact ⟨rfl, below_step ZV.out.b (T5.b Qb35.out)⟩
end Go.Proofs.YtjphmebhofkhcaaDoor.Seg
