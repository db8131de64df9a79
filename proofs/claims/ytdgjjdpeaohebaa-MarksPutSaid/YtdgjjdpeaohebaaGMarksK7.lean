/- Marks: the walk of Put. Conditions: at most 2^40 spans and sites, places and letters below 2^61. -/
import Derived.Test.YtdgjjdpeaohebaaGMarksK6
namespace Go.Proofs.Ytdgjjdpeaohebaa.Mk
open Go.RowKit Go.Proofs.YtdgjjdpeaohebaaW.PrintWords Go.Proofs.YtdgjjdpeaohebaaW.PrintLast Go.Proofs.YtdgjjdpeaohebaaW.PrintMore Go.Proofs.Ytdgjjdpeaohebaa.PMarksTake Go.Proofs.Ytdgjjdpeaohebaa.Pure
set_option linter.unusedVariables false
set_option linter.unusedSimpArgs false
attribute [local go_sem] max2_int min2_int max_two min_two
abbrev kSp := k26
theorem infoSp : (Try.prog.info? 26).map (fun i => (i.zero, i.size, i.bytes)) = some (some (.agg #[.int .i64 0, .int .i64 0, .int .i64 0]), 3, 24) := by kernel_rfl
theorem R_moveT {α : Type} {d : Kd α} {e : Nat} {w w1 : World} {base : Nat} {ok : Nat → Prop} {v : Value} {xs : List α} (hE : d.E = []) (h : d.R e w base ok v xs) (m : ∀ (g : Nat) (cs : Array Value), w.heap[g]? = some (.cells cs e (0, 0)) → w1.heap[g]? = w.heap[g]?) : d.R e w1 base ok v xs :=
 Kd.R_mono (Kd.R_move (Kd.R_bound h) (fun k hk => by obtain ⟨_, _, _, q, hq, cs, hc⟩ := hk; rw [hE] at hq; have := List.mem_singleton.1 hq; subst this; exact m k cs hc)) (fun _ hk => hk.1)
def RetAdd (v : Value) (o : List Sp) (base : Nat) (w : World) (e : Ending) (w' : World) : Prop := ∃ v', e = .returned v' ∧ Kd.R kSp 26 w' base (fun _ => True) v' o ∧ w.grownBy w' v.ownBlock ∧ ∀ k, v'.ownBlock = some k → some k = v.ownBlock ∨ w.heap.size ≤ k
theorem add_calls (v : Value) (o : List Sp) (s : Sp) (w0 w : World) (hB : Below w0.heap.size w0 w) (h : Kd.R kSp 26 w w0.heap.size (fun _ => True) v o) (hl : o.length < 5864062014805) :
  Calls Try.prog 32 #[v, .agg #[.int .i64 s.f0, .int .i64 s.f1, .int .i64 s.f2]] w (RetAdd v (addL o s) w0.heap.size w) := by
 have h1 : Kd.R kSp 26 w w0.heap.size (fun k => some k = v.ownBlock) v o := ⟨fun k hk => hk.symm, h.2.imp_ (fun x c hM => by rw [k26_openM hM]; exact k26_mkM _ _ _ _)⟩
 refine (marks_add.calls (fun k => some k = v.ownBlock) v o s.f0 s.f1 s.f2 (addL o s) w0 w hB h1 (by rw [marks_add_eq o s.f0 s.f1 s.f2 hl])).mono ?_
 rintro e w' ⟨v', rfl, hr, hb, hk⟩
 exact ⟨v', rfl, Kd.R_mono hr (fun _ _ => trivial), ⟨hb.os.trans hB.os.symm, hb.tape.trans hB.tape.symm, hb.output.trans hB.output.symm, hk.1, fun k h2 hne => hk.2 k h2 hne⟩, hr.1⟩
/-- Where a place is behind letters that are put. -/
def toP (a k : Int) (p : Int) : Int := if p > a then IntKind.i64.wrap (p + k) else p
set_option maxRecDepth 100000 in
set_option maxHeartbeats 800000 in
theorem put1_calls (a k p : Int) (ga gk : Nat) (w : World) (ha : w.cell? ⟨ga, 0, none⟩ = some (.int .i64 a)) (hk : w.cell? ⟨gk, 0, none⟩ = some (.int .i64 k)) :
  Calls Try.prog 37 #[.int .i64 p, .pointer (some ⟨ga, 0, none⟩), .pointer (some ⟨gk, 0, none⟩)] w fun e w' => e = .returned (.int .i64 (toP a k p)) ∧ Below w.heap.size w w' := by
 unfold toP
 go_enter Try.func37, Try.ntmps37
 by_cases h : p > a
 ·have d' : decide (a < p) = true := by simpa using h
  rw [if_pos h]
  generalize hz : IntKind.i64.wrap (p + k) = z
  go_wp2
  go_ret
  exact ⟨rfl, Below.refl _ _⟩
 ·have d' : decide (a < p) = false := by simpa using h
  rw [if_neg h]
  go_wp2
  go_ret
  exact ⟨rfl, Below.refl _ _⟩
theorem eg_put1 : ∀ args w, (callFunc 37 args).run Try.prog w = .ok (.enter 37 args) w := fun args w => by kernel_rfl
theorem putGo_snoc (a k m : Int) : ∀ (l : List Sp) (s : Sp) (o : List Sp) (d : Bool), putGo a k m (l ++ [s]) o d = putStep a k m (putGo a k m l o d).1 (putGo a k m l o d).2 s
 | [], s, o, d => rfl
 | x :: r, s, o, d => by simp only [List.cons_append, putGo]; exact putGo_snoc a k m r s _ _
theorem putGo_take {a k m : Int} {xs : List Sp} {j : Nat} {x : Sp} (h : xs[j]? = some x) : putGo a k m (xs.take (j + 1)) [] false = putStep a k m (putGo a k m (xs.take j) [] false).1 (putGo a k m (xs.take j) [] false).2 x := by
 obtain ⟨hl, e⟩ := List.getElem?_eq_some_iff.1 h
 rw [List.take_succ_eq_append_getElem hl, e, putGo_snoc]
theorem putStep_len (a k m : Int) (o : List Sp) (d : Bool) (s : Sp) : (putStep a k m o d s).1.length ≤ o.length + 3 := by
 unfold putStep addA addB
 have h1 := addL_length o ⟨s.f0, s.f1, min s.f2 a⟩
 have h2 := addL_length (addL o ⟨s.f0, s.f1, min s.f2 a⟩) (freshS a k m)
 split
 ·split
  ·have h3 := addL_length (addL o ⟨s.f0, s.f1, min s.f2 a⟩) ⟨s.f0, max s.f1 a + k, s.f2 + k⟩
   dsimp only
   omega
  ·have h3 := addL_length (addL (addL o ⟨s.f0, s.f1, min s.f2 a⟩) (freshS a k m)) ⟨s.f0, max s.f1 a + k, s.f2 + k⟩
   dsimp only
   omega
 ·dsimp only
  omega
theorem putGo_len (a k m : Int) : ∀ (l : List Sp) (o : List Sp) (d : Bool), (putGo a k m l o d).1.length ≤ o.length + 3 * l.length
 | [], o, d => by simp [putGo]
 | s :: r, o, d => by
  have h1 := putGo_len a k m r (putStep a k m o d s).1 (putStep a k m o d s).2
  have h2 := putStep_len a k m o d s
  rw [putGo, List.length_cons]
  omega
/-- Blocks that stay, and a row of spans of the call's own. -/
structure KZ (w : World) (L : List (Nat × Array Value × TypeId)) (v : Value) (o : List Sp) (W : World) : Prop where
 b : Below w.heap.size w W
 blk : ∀ z ∈ L, W.heap[z.1]? = some (.cells z.2.1 z.2.2 (0, 0)) ∧ some z.1 ≠ v.ownBlock
 row : Kd.R kSp 26 W w.heap.size (fun _ => True) v o
theorem KZ.next {w W W' : World} {L : List (Nat × Array Value × TypeId)} {v : Value} {o : List Sp} (h : KZ w L v o W) (hb : Below W.heap.size W W') : KZ w L v o W' := ⟨below_step h.b hb, fun z hz => ⟨blk_below (h.blk z hz).1 hb, (h.blk z hz).2⟩, Kd.R_below h.row hb⟩
theorem own_base_of {w : World} {base : Nat} {e : TypeId} {size n : Nat} {v : Value} {xs : List Value} (h : w.ownsRow base e size v n xs) (k : Nat) (hk : v.ownBlock = some k) : base ≤ k := by
 obtain ⟨_, h⟩ := h
 rcases h with ⟨hv, _⟩ | ⟨g, cap, cur, hv, hb, _⟩
 ·subst hv; cases hk
 ·subst hv
  injection hk with hk
  have hk' : g = k := hk
  omega
theorem own_baseS {W : World} {base : Nat} {ok : Nat → Prop} {v : Value} {o : List Sp} (h : Kd.R kSp 26 W base ok v o) : ∀ k, v.ownBlock = some k → base ≤ k ∧ k < W.heap.size := by
 obtain ⟨_, inner, ho, _⟩ := h
 exact fun k hk => ⟨own_base_of ho k hk, own_lt ho k hk⟩
theorem KZ.add {w W : World} {L : List (Nat × Array Value × TypeId)} {v : Value} {o o' : List Sp} (h : KZ w L v o W) {e : Ending} {W' : World} (ha : RetAdd v o' w.heap.size W e W') : ∃ v', e = .returned v' ∧ KZ w L v' o' W' := by
 obtain ⟨v', rfl, hr, hg, hn⟩ := ha
 refine ⟨v', rfl, below_grown h.b hg (fun k hk => (own_baseS h.row k hk).1), fun z hz => ⟨(hg.block z.1 (blk_lt (h.blk z hz).1) (h.blk z hz).2).trans (h.blk z hz).1, fun e => ?_⟩, hr⟩
 rcases hn z.1 e.symm with k | k
 ·exact (h.blk z hz).2 k
 ·have := blk_lt (h.blk z hz).1
  omega
theorem KZ.push {w W W' : World} {L : List (Nat × Array Value × TypeId)} {v : Value} {o : List Sp} (h : KZ w L v o W) {g : Nat} {cs : Array Value} {t : TypeId} (hb : Below W.heap.size W W') (hg : W.heap.size ≤ g) (hx : W'.heap[g]? = some (.cells cs t (0, 0))) : KZ w ((g, cs, t) :: L) v o W' := by
 refine ⟨below_step h.b hb, fun z hz => ?_, Kd.R_below h.row hb⟩
 rcases List.mem_cons.1 hz with rfl | hz
 ·exact ⟨hx, fun e => by have := (own_baseS h.row g e.symm).2; omega⟩
 ·exact (h.next hb).blk z hz
theorem KZ.tail {w W : World} {z0 : Nat × Array Value × TypeId} {L : List (Nat × Array Value × TypeId)} {v : Value} {o : List Sp} (h : KZ w (z0 :: L) v o W) : KZ w L v o W := ⟨h.b, fun z hz => h.blk z (List.mem_cons_of_mem _ hz), h.row⟩
/-- A world behind V with a block of type t. -/
structure TBm (t : TypeId) (V : World) (g : Nat) (cs : Array Value) (W : World) : Prop where
 b : Below V.heap.size V W
 lo : V.heap.size ≤ g
 hx : W.heap[g]? = some (.cells cs t (0, 0))
theorem TBm.set {t : TypeId} {V W : World} {g : Nat} {cs : Array Value} (h : TBm t V g cs W) (j : Nat) (u : Value) : TBm t V g (cs.setIfInBounds j u) (W.setCell ⟨g, j, none⟩ u) := ⟨below_set h.b h.lo, h.lo, by simpa using blk_set h.hx j u⟩
theorem at_S {w : World} {A : Option Addr} {n : Nat} {xs : List Sp} (h : Kd.C kSp w A n xs) {j : Nat} {x : Sp} (hx : xs[j]? = some x) (hj : j < n) : ∃ ad, A = some ad ∧ w.cell? (ad.add (j * 3)) = some (.int .i64 x.f0) ∧ w.cell? ⟨(ad.add (j * 3)).block, (ad.add (j * 3)).off + 1, none⟩ = some (.int .i64 x.f1) ∧ w.cell? ⟨(ad.add (j * 3)).block, (ad.add (j * 3)).off + 2, none⟩ = some (.int .i64 x.f2) := by
 have e2 : rd_T26 xs (j : Int) = x := by unfold rd_T26; rw [Int.toNat_natCast, List.getD_eq_getElem?_getD, hx]; rfl
 obtain ⟨ad, e, h0, h1, h2⟩ := at_T26 h (j : Int) (by omega) (by omega)
 rw [e2, Int.toNat_natCast] at h0 h1 h2
 exact ⟨ad, e, h0, h1, h2⟩
def RetMk (o : List Sp) (zs : List SY) (w : World) (e : Ending) (w' : World) : Prop := ∃ A c B d, e = .returned (.agg #[.slice A o.length c, .slice B zs.length d]) ∧ Kd.R kSp 26 w' w.heap.size (fun _ => True) (.slice A o.length c) o ∧ Kd.R kY 38 w' w.heap.size (fun _ => True) (.slice B zs.length d) zs ∧ Below w.heap.size w w'
end Go.Proofs.Ytdgjjdpeaohebaa.Mk
