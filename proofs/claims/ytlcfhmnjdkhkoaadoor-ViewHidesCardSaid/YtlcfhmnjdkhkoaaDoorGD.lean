/- Rows of segments; the walk of sheet's twice (a map of Ids). Conditions: at most 2^40 segments. -/
import Derived.Test.YtlcfhmnjdkhkoaaDoorGC
import Derived.Maps.OwnOps
import Derived.Maps.Views
namespace Go.Proofs.YtlcfhmnjdkhkoaaDoor.Seg
open Go.RowKit Go.Maps Go.Proofs.YtlcfhmnjdkhkoaaDoorW.PrintWords Go.Proofs.YtlcfhmnjdkhkoaaDoorW.PrintLast Go.Proofs.YtlcfhmnjdkhkoaaDoorW.PrintMore Go.Proofs.YtlcfhmnjdkhkoaaDoor.Rope Go.Proofs.YtlcfhmnjdkhkoaaDoor.PViewRuns Go.Proofs.YtlcfhmnjdkhkoaaDoor.Pure
set_option linter.unusedVariables false
set_option linter.unusedSimpArgs false
theorem law3 : Keyed Tryd.prog 3 := int_keyed Tryd.underlying3
theorem zero4 (w : World) : (zeroValue 4).run Tryd.prog w = .ok (.bool false) w := by kernel_rfl

/-- An element that reads as a bool's datum is that bool. -/
theorem plainElem_bool_inv {H : Type} {P : Program} {e : TypeId} (he : P.underlying e = some .bool) {v : Value} {z : DataW H × List MemPlace} (h : plainElem P e v = some z) : ∃ a, v = .bool a ∧ z = (.lit (.bool a), []) := by
  unfold plainElem at h
  rw [he] at h
  cases v <;> simp at h
  obtain rfl := h
  exact ⟨_, rfl, rfl⟩

/-- Block b is a map of bools that holds just L's keys. -/
def SetIs (w : World) (b : Nat) (L : List Int) : Prop :=
  ∃ D : DataW Unit, w.ownsMap Tryd.prog 3 (plainElem Tryd.prog 4) b L.length D ∧ IsMap D ∧ ∀ x : Int, D.atKey (.int .i64 x) (.lit (.bool false)) = .lit (.bool (decide (x ∈ L)))

theorem SetIs.made (w : World) : SetIs (w.alloc (.map #[] 0)) w.heap.size [] :=
  ⟨.map [], World.ownsMap_made _ _ _ _, isMap_empty, fun x => by simp [DataW.atKey]⟩

theorem SetIs.of_block {w w' : World} {b : Nat} {L : List Int} (h : SetIs w b L) (e : w'.heap[b]? = w.heap[b]?) : SetIs w' b L := by
  obtain ⟨D, ⟨es, clock, hb, r⟩, hr⟩ := h
  exact ⟨D, ⟨es, clock, e.trans hb, r⟩, hr⟩
theorem SetIs.lt {w : World} {b : Nat} {L : List Int} (h : SetIs w b L) : b < w.heap.size := by
  obtain ⟨D, h, _⟩ := h
  exact h.lt
theorem SetIs.below {w w' : World} {b : Nat} {L : List Int} (h : SetIs w b L) (hb : Below w.heap.size w w') : SetIs w' b L := h.of_block (hb.block b h.lt)
theorem SetIs.set {w : World} {b : Nat} {L : List Int} (h : SetIs w b L) (a : Addr) (v : Value) (hne : b ≠ a.block) : SetIs (w.setCell a v) b L := h.of_block (Below.heap_setCell w a v b hne)
theorem SetIs.not_cells {w : World} {b g : Nat} {L : List Int} {cs : Array Value} {t : TypeId} (h : SetIs w b L) (hg : w.heap[g]? = some (.cells cs t (0, 0))) : b ≠ g := by
  rintro rfl
  obtain ⟨D, ⟨es, clock, hb, _⟩, _⟩ := h
  rw [hb] at hg
  cases hg

theorem SetIs.look {P' : Unit} {w : World} {b : Nat} {L : List Int} (h : SetIs w b L) (x : Int) (hx : (Lit.int .i64 x).wf = true) :
    (Instr.lookup 83 (.map (some b)) (.int .i64 x) false).run Tryd.prog w = .ok (.bool (decide (x ∈ L))) w := by
  obtain ⟨D, hown, _, hD⟩ := h
  obtain ⟨v, ps, hrun, hv⟩ := hown.lookup law3 Tryd.underlying83 (zero4 w) (plainElem_bool Tryd.underlying4 false) (keyOf_int_mk Tryd.underlying3 hx)
  obtain ⟨c, rfl, hc⟩ := plainElem_bool_inv Tryd.underlying4 hv
  simp only [Prod.mk.injEq] at hc
  have := hc.1
  rw [hD x] at this
  cases this
  exact hrun

theorem wpList_look_set {w : World} {ops : Array Oper} {rest : List Oper} {o : Oper} {a : Act} {Q : Exit → Act → World → Prop}
    (hg : o.guard = none) (m x : Operand) (hop : o.op = Op.lookup 83 m x false) (b : Nat) (L : List Int)
    (hm : a.eval m = .map (some b)) (hown : SetIs w b L) (i : Int) (hx : a.eval x = .int .i64 i) (hw : (Lit.int .i64 i).wf = true)
    (hK : wpList Tryd.prog ops Q rest (a.put o.dst (.bool (decide (i ∈ L)))) w) : wpList Tryd.prog ops Q (o :: rest) a w := by
  refine wpList_plain hg fun K' hK' => ?_
  have hrun := hown.look (P' := ()) i hw
  unfold Oper.wp
  simp [execOp, hop, hm, hx, hrun, Result.andThen]
  exact hK' _ _ hK

theorem wpList_put_set {w : World} {ops : Array Oper} {rest : List Oper} {o : Oper} {a : Act} {Q : Exit → Act → World → Prop}
    (hg : o.guard = none) (m x v : Operand) (hop : o.op = Op.mapUpdate 83 m x v) (b : Nat) (L : List Int)
    (hm : a.eval m = .map (some b)) (hown : SetIs w b L) (hn : L.length < maxLen) (i : Int) (hx : a.eval x = .int .i64 i) (hv : a.eval v = .bool true) (hw : (Lit.int .i64 i).wf = true)
    (hK : ∀ w', SetIs w' b (L ++ [i]) → w.grownBy w' (some b) → wpList Tryd.prog ops Q rest (a.put o.dst undef) w') : wpList Tryd.prog ops Q (o :: rest) a w := by
  obtain ⟨D, hown, hM, hD⟩ := hown
  refine wpList_mapUpdate_own w hg m x v 83 hop 3 4 law3 Tryd.underlying83 _ b L.length D hm hown hn _ _ _ hx hv (keyOf_int_mk Tryd.underlying3 hw) _ [] (plainElem_bool Tryd.underlying4 true) fun w' h1 h2 => hK w' ⟨_, by simpa using h1, hM.put _ _, fun x => ?_⟩ h2
  by_cases e : x = i
  · subst e
    rw [atKey_put_same hM (by trivial)]
    simp
  · rw [atKey_put_other (by intro h; cases h; exact e rfl), hD x]
    simp [e]


def cntV : Value → Nat
  | .int _ i => i.toNat
  | _ => 0
abbrev kQ : Kd (List Value) := Kd.raw 5
/-- These cells are a segment's. -/
def SgV (w : World) (cs : List Value) (x : G) : Prop := ∃ p A c B d, cs = [.int .i64 x.f0, .int .i64 x.f1, .pointer p, .slice A x.f3.length c, .slice B x.f4.length d] ∧ SP w x p A c B d
theorem SgV.below {w w1 : World} {cs : List Value} {x : G} (h : SgV w cs x) (hb : Below w.heap.size w w1) : SgV w1 cs x := by
  obtain ⟨p, A, c, B, d, e, h⟩ := h
  exact ⟨p, A, c, B, d, e, h.below hb⟩
theorem SgV.move {w w1 : World} {cs : List Value} {x : G} (h : SgV w cs x) (m3 : ∀ (g : Nat) (cs : Array Value), w.heap[g]? = some (.cells cs 78 (0, 0)) → w1.heap[g]? = w.heap[g]?) (m4 : ∀ (g : Nat) (cs : Array Value), w.heap[g]? = some (.cells cs 81 (0, 0)) → w1.heap[g]? = w.heap[g]?) (m : ∀ (g : Nat) (cs : Array Value), w.heap[g]? = some (.cells cs 93 (0, 0)) → w1.heap[g]? = w.heap[g]?) : SgV w1 cs x := by
  obtain ⟨p, A, c, B, d, e, h⟩ := h
  exact ⟨p, A, c, B, d, e, h.move m3 m4 m⟩
/-- These rows of cells are these segments. -/
def Sgs (w : World) (xss : List (List Value)) (xs : List G) : Prop := xs.length = xss.length ∧ ∀ (j : Nat) cs x, xss[j]? = some cs → xs[j]? = some x → SgV w cs x
theorem Sgs.below {w w1 : World} {xss : List (List Value)} {xs : List G} (h : Sgs w xss xs) (hb : Below w.heap.size w w1) : Sgs w1 xss xs := ⟨h.1, fun j cs x h1 h2 => (h.2 j cs x h1 h2).below hb⟩
theorem Sgs.move {w w1 : World} {xss : List (List Value)} {xs : List G} (h : Sgs w xss xs) (m3 : ∀ (g : Nat) (cs : Array Value), w.heap[g]? = some (.cells cs 78 (0, 0)) → w1.heap[g]? = w.heap[g]?) (m4 : ∀ (g : Nat) (cs : Array Value), w.heap[g]? = some (.cells cs 81 (0, 0)) → w1.heap[g]? = w.heap[g]?) (m : ∀ (g : Nat) (cs : Array Value), w.heap[g]? = some (.cells cs 93 (0, 0)) → w1.heap[g]? = w.heap[g]?) : Sgs w1 xss xs := ⟨h.1, fun j cs x h1 h2 => (h.2 j cs x h1 h2).move m3 m4 m⟩
theorem get_snocS {α : Type} {xs : List α} {y : α} {j : Nat} {x : α} (h : (xs ++ [y])[j]? = some x) : xs[j]? = some x ∨ (j = xs.length ∧ x = y) := by
  rcases Nat.lt_or_ge j xs.length with h1 | h1
  · rw [List.getElem?_append_left h1] at h
    exact .inl h
  · have hl := (List.getElem?_eq_some_iff.1 h).1
    rw [List.length_append, List.length_singleton] at hl
    have : j = xs.length := by omega
    subst this
    refine .inr ⟨rfl, ?_⟩
    simpa using h.symm
theorem Sgs.snoc {w : World} {xss : List (List Value)} {xs : List G} {cs : List Value} {x : G} (h : Sgs w xss xs) (hx : SgV w cs x) : Sgs w (xss ++ [cs]) (xs ++ [x]) := by
  refine ⟨by simp [h.1], fun j cs' x' h1 h2 => ?_⟩
  rcases get_snocS h1 with h1 | ⟨e1, rfl⟩ <;> rcases get_snocS h2 with h2 | ⟨e2, rfl⟩
  · exact h.2 j cs' x' h1 h2
  · have := (List.getElem?_eq_some_iff.1 h1).1
    have := h.1
    omega
  · have := (List.getElem?_eq_some_iff.1 h2).1
    have := h.1
    omega
  · exact hx
/-- An element of a row of segments. -/
theorem at_Q {w : World} {A : Option Addr} {n : Nat} {xss : List (List Value)} (h : Kd.C kQ w A n xss) {j : Nat} {v0 v1 v2 v3 v4 : Value} (hx : xss[j]? = some [v0, v1, v2, v3, v4]) (hj : j < n) :
    ∃ ad, A = some ad ∧ w.cell? (ad.add (j * 5)) = some v0 ∧ w.cell? ⟨(ad.add (j * 5)).block, (ad.add (j * 5)).off + 1, none⟩ = some v1 ∧ w.cell? ⟨(ad.add (j * 5)).block, (ad.add (j * 5)).off + 2, none⟩ = some v2 ∧ w.cell? ⟨(ad.add (j * 5)).block, (ad.add (j * 5)).off + 3, none⟩ = some v3 ∧ w.cell? ⟨(ad.add (j * 5)).block, (ad.add (j * 5)).off + 4, none⟩ = some v4 := by
  obtain ⟨ad, c, e, _, hK, hc0⟩ := Kd.C_get h [] (j : Int) (by omega) (by omega)
  have hc : ∀ i u, c[i]? = some u → w.cell? (ad.add (j * 5 + i)) = some u := by
    intro i u hu
    have := hc0 i u hu
    rwa [Int.toNat_natCast] at this
  have e2 : xss.getD (j : Int).toNat [] = [v0, v1, v2, v3, v4] := by rw [Int.toNat_natCast, List.getD_eq_getElem?_getD, hx]; rfl
  rw [e2] at hK
  obtain ⟨rfl, _, _⟩ := hK
  exact ⟨ad, e, hc 0 _ rfl, by rw [← add_field _ _ 1 (by omega)]; exact hc 1 _ rfl, by rw [← add_field _ _ 2 (by omega)]; exact hc 2 _ rfl, by rw [← add_field _ _ 3 (by omega)]; exact hc 3 _ rfl, by rw [← add_field _ _ 4 (by omega)]; exact hc 4 _ rfl⟩
/-- Have two one Id? -/
def twB (xs : List G) : Bool := !decide ((xs.map (·.f0)).Nodup)
theorem take_ids {xs : List G} {j : Nat} {x : G} (h : xs[j]? = some x) : (xs.take (j + 1)).map (·.f0) = (xs.take j).map (·.f0) ++ [x.f0] := by
  obtain ⟨hl, e⟩ := List.getElem?_eq_some_iff.1 h
  rw [List.take_succ_eq_append_getElem hl, e, List.map_append]
  rfl
theorem not_nodup {xs : List G} {j : Nat} {x : G} (h : xs[j]? = some x) (hm : x.f0 ∈ (xs.take j).map (·.f0)) : ¬ (xs.map (·.f0)).Nodup := by
  intro hn
  have e : xs.map (·.f0) = (xs.take (j + 1)).map (·.f0) ++ (xs.drop (j + 1)).map (·.f0) := by rw [← List.map_append, List.take_append_drop]
  rw [e, take_ids h, List.append_assoc] at hn
  have := (List.nodup_append.1 hn).2.2 x.f0 hm x.f0 (by simp)
  exact this rfl
theorem nodup_more {xs : List G} {j : Nat} {x : G} (h : xs[j]? = some x) (hn : ((xs.take j).map (·.f0)).Nodup) (hm : ¬ x.f0 ∈ (xs.take j).map (·.f0)) : ((xs.take (j + 1)).map (·.f0)).Nodup := by
  rw [take_ids h, List.nodup_append]
  exact ⟨hn, by simp, fun a ha b hb e => hm (by rw [List.mem_singleton.1 hb] at e; rw [← e]; exact ha)⟩
set_option maxRecDepth 1000000 in
set_option maxHeartbeats 4000000 in
theorem twice_calls (A : Option Addr) (c : Nat) (xss : List (List Value)) (xs : List G) (w : World) (hr : Kd.C kQ w A xss.length xss) (hs : Sgs w xss xs) (hl : xss.length ≤ 1099511627776) (hwf : ∀ x ∈ xs, (Lit.int .i64 x.f0).wf = true) :
    Calls Tryd.prog 23 #[.slice A xss.length c] w fun e w' => e = .returned (.bool (twB xs)) ∧ Below w.heap.size w w' := by
  have HR := Lib.hid hr
  have HS := Lib.hid hs
  have HW := Lib.hid hwf
  have hmm := @run_makeMap Tryd.prog
  clear hr hs hwf
  go_enter Tryd.func23, Tryd.ntmps23
  go_wp2
  have M0 := Lib.hid (SetIs.made w)
  have B0 := Lib.hid (below_alloc (Below.refl w.heap.size w) (.map #[] 0))
  obtain ⟨W0, hW0⟩ : ∃ W0, w.alloc (.map #[] 0) = W0 := ⟨_, rfl⟩
  obtain ⟨gm, hgm⟩ : ∃ g, w.heap.size = g := ⟨_, rfl⟩
  have GM : Hid (w.heap.size ≤ gm) := Lib.hid (by omega)
  rw [hW0] at M0 B0 ⊢
  rw [hgm] at M0 ⊢
  clear hW0 hgm
  go_loopw [9] (fun s9 wr => ∃ kk : Nat, kk ≤ xss.length ∧ s9 = .int .i64 (kk : Int) ∧ Hid (Below w.heap.size w wr) ∧ Hid (SetIs wr gm ((xs.take kk).map (·.f0))) ∧ Hid (((xs.take kk).map (·.f0)).Nodup)) (fun s9 _ => xss.length - cntV s9)
  case atStart => exact ⟨0, Nat.zero_le _, rfl, B0, by simpa using M0, Lib.hid (by simp)⟩
  case round =>
    obtain ⟨kk, hkk, rfl, BW, MW, NW⟩ := hrel
    by_cases hlt : kk < xss.length
    · have d1 : decide ((kk : Int) < (xss.length : Int)) = true := by simp; omega
      have b1 : (0 : Int) ≤ (kk : Int) := by omega
      have b2 : (kk : Int) < (xss.length : Int) := by omega
      obtain ⟨cs, hcs⟩ : ∃ cs, xss[kk]? = some cs := ⟨_, List.getElem?_eq_getElem hlt⟩
      obtain ⟨x, hx⟩ : ∃ x, xs[kk]? = some x := ⟨_, List.getElem?_eq_getElem (by rw [HS.out.1]; exact hlt)⟩
      obtain ⟨p, A1, c1, B1, d1_, ecs, hsp⟩ := HS.out.2 kk cs x hcs hx
      subst ecs
      have WX := Lib.hid (HW.out x (List.mem_of_getElem? hx))
      have RM : Hid (((xs.take kk).map (·.f0)).length < maxLen) := Lib.hid (by rw [List.length_map, List.length_take]; unfold maxLen; omega)
      obtain ⟨ad, e0, y0, y1, y2, y3, y4⟩ := at_Q (Kd.C_below HR.out BW.out) hcs hlt
      subst e0
      have HX := Lib.hid hx
      clear hcs hx hsp
      go_upto_region 5 with (first | ((with_reducible refine gate_dst (N := 5) rfl ?_); refine box_event ?hg (N := 5) ?hd (cs := #[.int .i64 0, .int .i64 0, .pointer none, .slice none 0 0, .slice none 0 0]) (t := 57) ?hr ?_; (case hd => rfl); (case hg => rfl); (case hr => first | (go_simp; done) | (go_simp; rfl)); intro gA hgA wA hxA hbA; have GA := Lib.hid (show wr.heap.size ≤ gA by rw [hgA]; exact Nat.le_refl _); have BA := Lib.hid hbA; have XA := Lib.hid hxA; have q0 := (blk_cell hxA 0).trans rfl; have q1 := (blk_cell hxA 1).trans rfl; have q2 := (blk_cell hxA 2).trans rfl; have q3 := (blk_cell hxA 3).trans rfl; have q4 := (blk_cell hxA 4).trans rfl; have z0 := blk_frozen hxA 0; have z1 := blk_frozen hxA 1; have z2 := blk_frozen hxA 2; have z3 := blk_frozen hxA 3; have z4 := blk_frozen hxA 4; clear hgA hxA hbA))
      have NE : gm ≠ gA := by have := MW.out.lt; have := GA.out; omega
      refine gen2 (φ := fun W => Code.wp _ _ _ _ W) (P := fun W => Below wr.heap.size wr W ∧ SetIs W gm ((xs.take kk).map (·.f0)) ∧ W.heap[gA]? = some (.cells (sgC x p A1 c1 B1 d1_) 57 (0, 0)))
        ⟨below_set (below_set (below_set (below_set (below_set BA.out GA.out) GA.out) GA.out) GA.out) GA.out, ((((((MW.out.below BA.out).set ⟨gA, 0, none⟩ _ NE).set ⟨gA, 1, none⟩ _ NE).set ⟨gA, 2, none⟩ _ NE).set ⟨gA, 3, none⟩ _ NE).set ⟨gA, 4, none⟩ _ NE), by simpa using blk_set (blk_set (blk_set (blk_set (blk_set XA.out 0 (.int .i64 x.f0)) 1 (.int .i64 x.f1)) 2 (.pointer p)) 3 (.slice A1 x.f3.length c1)) 4 (.slice B1 x.f4.length d1_)⟩ ?_
      clear q0 q1 q2 q3 q4 z0 z1 z2 z3 z4 XA BA GA MW y0 y1 y2 y3 y4
      rintro V ⟨hbV, hmV, hxV⟩
      have BV := Lib.hid (below_step BW.out hbV)
      have MV := Lib.hid hmV
      have XV := Lib.hid hxV
      clear hbV hmV hxV BW
      have a0 := (blk_cell XV.out 0).trans rfl
      have a1 := (blk_cell XV.out 1).trans rfl
      have a2 := (blk_cell XV.out 2).trans rfl
      have a3 := (blk_cell XV.out 3).trans rfl
      have a4 := (blk_cell XV.out 4).trans rfl
      have HX2 := HX
      obtain ⟨L, hL⟩ : ∃ L, L = (xs.take kk).map (·.f0) := ⟨_, rfl⟩
      rw [← hL] at MV RM
      go_wp2_with fail
      (go_at_call 31; refine (id_calls x p A1 c1 B1 d1_ _).mono ?_; rintro e w5 ⟨rfl, hb5⟩)
      have B5 := Lib.hid (below_step BV.out hb5)
      have M5 := Lib.hid (MV.out.below hb5)
      have X5 := Lib.hid (blk_below XV.out hb5)
      clear hb5 BV MV XV a0 a1 a2 a3 a4
      by_cases hm : x.f0 ∈ L
      · have D1 : decide (x.f0 ∈ L) = true := by simpa using hm
        have ND := Lib.hid (not_nodup HX.out (by rw [← hL]; exact hm))
        clear hm
        go_wp2_with (first | (at_lookup; refine wpList_look_set rfl _ _ rfl gm L rfl M5.out x.f0 rfl WX.out ?_; rw [D1]))
        go_ret
        refine ⟨?_, B5.out⟩
        simp [twB, ND.out]
      · have D1 : decide (x.f0 ∈ L) = false := by simpa using hm
        have ND := Lib.hid (nodup_more HX.out NW.out (by rw [← hL]; exact hm))
        have LN := Lib.hid (take_ids HX.out)
        clear hm
        have a0 := (blk_cell X5.out 0).trans rfl
        have a1 := (blk_cell X5.out 1).trans rfl
        have a2 := (blk_cell X5.out 2).trans rfl
        have a3 := (blk_cell X5.out 3).trans rfl
        have a4 := (blk_cell X5.out 4).trans rfl
        go_upto_region 7 with (first | (at_lookup; refine wpList_look_set rfl _ _ rfl gm L rfl M5.out x.f0 rfl WX.out ?_; rw [D1]))
        go_wp2_with (first | (at_mapUpdate; refine wpList_put_set rfl _ _ _ rfl gm L rfl M7.out RM.out x.f0 rfl rfl WX.out ?_; intro w8 hs8 hg8; have S8 := Lib.hid hs8; have G8 := Lib.hid hg8; clear hs8 hg8) | (go_at_call 31; refine (id_calls x p A1 c1 B1 d1_ _).mono ?_; rintro e w7 ⟨rfl, hb7⟩; have B7 := Lib.hid (below_step B5.out hb7); have M7 := Lib.hid (M5.out.below hb7); clear hb7))
        go_roundw
        case rel =>
          refine ⟨kk + 1, by omega, by go_num, Lib.hid (pw_below_grown B7.out _ B7.out.size G8.out (fun k hk => by cases hk; exact GM.out)), ?_, ND⟩
          rw [LN.out, ← hL]
          exact S8
        case measure =>
          simp only [cntV]
          omega
    · have d1 : decide ((kk : Int) < (xss.length : Int)) = false := by simp; omega
      go_wp2
      go_ret
      refine ⟨?_, BW.out⟩
      have e : xs.take kk = xs := List.take_of_length_le (by rw [HS.out.1]; omega)
      have := NW.out
      rw [e] at this
      simp [twB, this]
end Go.Proofs.YtlcfhmnjdkhkoaaDoor.Seg
/- The walk of sheet.Load. Conditions: at most 2^40 segments, of at most 2^40 bytes, spans, sites each; Go's two tables of utf8 as they are laid. -/
namespace Go.Proofs.YtlcfhmnjdkhkoaaDoor.Seg
open Go.RowKit Go.Maps Go.Proofs.YtlcfhmnjdkhkoaaDoorW.PrintWords Go.Proofs.YtlcfhmnjdkhkoaaDoorW.PrintLast Go.Proofs.YtlcfhmnjdkhkoaaDoorW.PrintMore Go.Proofs.YtlcfhmnjdkhkoaaDoor.Rope Go.Proofs.YtlcfhmnjdkhkoaaDoor.PViewRuns Go.Proofs.YtlcfhmnjdkhkoaaDoor.Pure
set_option linter.unusedVariables false
set_option linter.unusedSimpArgs false
theorem infoC57 : (Tryd.prog.info? 57).map (fun i => (i.zero, i.size, i.bytes)) = some (some (.agg #[.int .i64 0, .int .i64 0, .pointer none, .slice none 0 0, .slice none 0 0]), 5, 72) := by kernel_rfl
theorem rd_G {xs : List G} {j : Nat} {x : G} (hx : xs[j]? = some x) : rd_T33 xs (j : Int) = x := by
  unfold rd_T33
  rw [Int.toNat_natCast, List.getD_eq_getElem?_getD, hx]
  rfl
theorem at_G {w : World} {A : Option Addr} {n : Nat} {xs : List G} (h : Kd.C kG w A n xs) {j : Nat} {x : G} (hx : xs[j]? = some x) (hj : j < n) :
    ∃ ad A3 c3 A4 c4, A = some ad ∧ w.cell? (ad.add (j * 5)) = some (.int .i64 x.f0) ∧ w.cell? ⟨(ad.add (j * 5)).block, (ad.add (j * 5)).off + 1, none⟩ = some (.int .i64 x.f1) ∧ w.cell? ⟨(ad.add (j * 5)).block, (ad.add (j * 5)).off + 2, none⟩ = some (.string x.f2) ∧ w.cell? ⟨(ad.add (j * 5)).block, (ad.add (j * 5)).off + 3, none⟩ = some (.slice A3 x.f3.length c3) ∧ w.cell? ⟨(ad.add (j * 5)).block, (ad.add (j * 5)).off + 4, none⟩ = some (.slice A4 x.f4.length c4) ∧ GR w x A3 c3 A4 c4 := by
  obtain ⟨ad, A3, c3, A4, c4, e, h0, h1, h2, h3, h4, l3, g3, l4, g4⟩ := at_T33 h (j : Int) (by omega) (by omega)
  rw [rd_G hx, Int.toNat_natCast] at *
  exact ⟨ad, A3, c3, A4, c4, e, h0, h1, h2, h3, h4, ⟨l3, l4, g3, g4⟩⟩
/-- What holds all along sheet.Load. -/
structure LdZ (w : World) (gR gS : Nat) (f : Bool) (v : Value) (xss : List (List Value)) (xs : List G) (W : World) : Prop where
  b : Below w.heap.size w W
  hR : W.heap[gR]? = some (.cells #[.bool false, .slice none 0 0] 27 (0, 0))
  hS : W.heap[gS]? = some (.cells #[.bool f, v] 27 (0, 0))
  row : Kd.R kQ 57 W w.heap.size (fun _ => True) v xss
  sgs : Sgs W xss xs
theorem LdZ.next {w W W' : World} {gR gS : Nat} {f : Bool} {v : Value} {xss : List (List Value)} {xs : List G} (h : LdZ w gR gS f v xss xs W) (hb : Below W.heap.size W W') : LdZ w gR gS f v xss xs W' :=
  ⟨below_step h.b hb, blk_below h.hR hb, blk_below h.hS hb, Kd.R_below h.row hb, h.sgs.below hb⟩
theorem R_typeQ {W W' : World} {base : Nat} {ok : Nat → Prop} {v : Value} {xss : List (List Value)} (h : Kd.R kQ 57 W base ok v xss) (hg : W.grownBy W' v.ownBlock) {t : TypeId} (ht : t ≠ 57) : ∀ (g : Nat) (cs : Array Value), W.heap[g]? = some (.cells cs t (0, 0)) → W'.heap[g]? = W.heap[g]? := by
  intro g cs hc
  obtain ⟨i, o⟩ := Kd.R_own h
  refine hg.block g (blk_lt hc) (fun e => ?_)
  obtain ⟨cs', hc'⟩ := own_typed o g e.symm
  rw [hc] at hc'
  injection hc' with hc'
  injection hc' with _ h2 _
  exact ht h2
theorem LdZ.more {w W W' : World} {gR gS : Nat} {f : Bool} {v v' : Value} {xss : List (List Value)} {xs : List G} {cs : List Value} {x : G} (h : LdZ w gR gS f v xss xs W) (hx : SgV W cs x) (ho : Kd.R kQ 57 W' w.heap.size (fun _ => True) v' (xss ++ [cs])) (hg : W.grownBy W' v.ownBlock) (hb : Below w.heap.size w W') (hne : gR ≠ gS) (hk : w.heap.size ≤ gS) : LdZ w gR gS f v' (xss ++ [cs]) (xs ++ [x]) (W'.setCell ⟨gS, 1, none⟩ v') := by
  have e1 := (R_typeQ h.row hg (by decide) _ _ h.hR).trans h.hR
  have e2 := (R_typeQ h.row hg (by decide) _ _ h.hS).trans h.hS
  refine ⟨below_set hb hk, blk_far e1 hne _, by simpa using blk_set e2 1 v', R_moveT rfl ho (set_typeS e2 (by decide) _ _), ?_⟩
  exact ((h.sgs.snoc hx).move (R_typeQ h.row hg (by decide)) (R_typeQ h.row hg (by decide)) (R_typeQ h.row hg (by decide))).move (set_typeS e2 (by decide) _ _) (set_typeS e2 (by decide) _ _) (set_typeS e2 (by decide) _ _)
/-- A sheet's row. -/
structure Sh (w : World) (A : Option Addr) (c : Nat) (xss : List (List Value)) (xs : List G) : Prop where
  len : xs.length = xss.length
  cap : xss.length ≤ c
  row : Kd.C kQ w A xss.length xss
  sgs : Sgs w xss xs
  ty : ∀ ad, A = some ad → ∃ cs, w.heap[ad.block]? = some (.cells cs 57 (0, 0))
theorem Sh.below {w w1 : World} {A : Option Addr} {c : Nat} {xss : List (List Value)} {xs : List G} (h : Sh w A c xss xs) (hb : Below w.heap.size w w1) : Sh w1 A c xss xs :=
  ⟨h.len, h.cap, Kd.C_below h.row hb, h.sgs.below hb, fun ad e => by obtain ⟨cs, hc⟩ := h.ty ad e; exact ⟨cs, blk_below hc hb⟩⟩
theorem kQ_any {w w1 : World} {x cs : List Value} (h : kQ.K w x cs) : kQ.K w1 x cs := h
theorem Sh.set {w : World} {A : Option Addr} {c : Nat} {xss : List (List Value)} {xs : List G} (h : Sh w A c xss xs) {g : Nat} {cs0 : Array Value} (hg : w.heap[g]? = some (.cells cs0 27 (0, 0))) (j : Nat) (u : Value) : Sh (w.setCell ⟨g, j, none⟩ u) A c xss xs :=
  ⟨h.len, h.cap, C_moveK (fun _ _ => kQ_any) h.row (fun ad e => by obtain ⟨cs, hc⟩ := h.ty ad e; exact set_typeS hg (by decide) _ _ _ cs hc), h.sgs.move (set_typeS hg (by decide) _ _) (set_typeS hg (by decide) _ _) (set_typeS hg (by decide) _ _), fun ad e => by obtain ⟨cs, hc⟩ := h.ty ad e; exact ⟨cs, (set_typeS hg (by decide) _ _ _ cs hc).trans hc⟩⟩
theorem Sh.of {w : World} {base : Nat} {ok : Nat → Prop} {A : Option Addr} {c : Nat} {xss : List (List Value)} {xs : List G} (h : Kd.R kQ 57 w base ok (.slice A xss.length c) xss) (hs : Sgs w xss xs) : Sh w A c xss xs := by
  obtain ⟨_, h1, h2⟩ := Kd.R_reads' h
  obtain ⟨i, o⟩ := Kd.R_own h
  exact ⟨hs.1, h1, h2, hs, fun ad e => by subst e; exact own_typed o ad.block rfl⟩
theorem one5 {i l : Int} {p A : Option Addr} {n c : Nat} {B : Option Addr} {m d : Nat} : ∀ u ∈ [Value.int .i64 i, .int .i64 l, .pointer p, .slice A n c, .slice B m d], u.oneCell' = true := by
  intro u hu
  simp only [List.mem_cons, List.not_mem_nil, or_false] at hu
  rcases hu with rfl | rfl | rfl | rfl | rfl <;> rfl
theorem takeG {xs : List G} {j : Nat} {x : G} (h : xs[j]? = some x) : xs.take (j + 1) = xs.take j ++ [x] := by
  obtain ⟨hl, e⟩ := List.getElem?_eq_some_iff.1 h
  rw [List.take_succ_eq_append_getElem hl, e]
/-- May they be a document's? -/
def okS (xs : List G) : Prop := (∀ x ∈ xs, okB x = true) ∧ (xs.map (·.f0)).Nodup
def RetNoS (w : World) (e : Ending) (w' : World) : Prop := e = .returned (.tuple #[.agg #[.bool false, .slice none 0 0], .bool false]) ∧ Below w.heap.size w w'
def RetSh (f : Bool) (xs : List G) (w : World) (e : Ending) (w' : World) : Prop := ∃ A c xss, e = .returned (.tuple #[.agg #[.bool f, .slice A xs.length c], .bool true]) ∧ Sh w' A c xss xs ∧ Below w.heap.size w w'
/-- What Load leaves: the sheet, or none. -/
def RetLS (f : Bool) (xs : List G) (w : World) (e : Ending) (w' : World) : Prop := (okS xs ∧ RetSh f xs w e w') ∨ (¬ okS xs ∧ RetNoS w e w')
set_option maxRecDepth 1000000 in
set_option maxHeartbeats 8000000 in
theorem shLoad_calls (f : Bool) (A : Option Addr) (c : Nat) (xs : List G) (w : World) (hT : Tabs w) (hr : Kd.C kG w A xs.length xs) (hz : ∀ x ∈ xs, Sz x) (hl : xs.length ≤ 1099511627776) (hwf : ∀ x ∈ xs, (Lit.int .i64 x.f0).wf = true) :
    Calls Tryd.prog 6 #[.bool f, .slice A xs.length c] w (RetLS f xs w) := by
  have HT := Lib.hid hT
  have HR := Lib.hid hr
  have HZ := Lib.hid hz
  have HW := Lib.hid hwf
  clear hT hr hz hwf
  go_enter Tryd.func6, Tryd.ntmps6
  go_upto_region 2 with (first | ((with_reducible refine gate_dst (N := 4) rfl ?_); refine box_event ?hg (N := 4) ?hd (cs := #[.bool false, .slice none 0 0]) (t := 27) ?hr ?_; (case hd => rfl); (case hg => rfl); (case hr => first | (go_simp; done) | (go_simp; rfl)); intro gR hgR wR hxR hbR; have BR := Lib.hid hbR; have XR := Lib.hid hxR; have GR_ := Lib.hid (show w.heap.size ≤ gR by rw [hgR]; exact Nat.le_refl _); clear hgR hxR hbR) | ((with_reducible refine gate_dst (N := 6) rfl ?_); refine box_event ?hg (N := 6) ?hd (cs := #[.bool false, .slice none 0 0]) (t := 27) ?hr ?_; (case hd => rfl); (case hg => rfl); (case hr => first | (go_simp; done) | (go_simp; rfl)); intro gS hgS wS hxS hbS; have BS := Lib.hid (below_step BR.out hbS); have XR1 := Lib.hid (blk_below XR.out hbS); have GS_ := Lib.hid (show w.heap.size ≤ gS by rw [hgS]; exact BR.out.size); have NE := Lib.hid (show gR ≠ gS by rw [hgS]; have := blk_lt XR.out; omega); have XS := Lib.hid hxS; have q0 := (blk_cell hxS 0).trans rfl; have q1 := (blk_cell hxS 1).trans rfl; have z0 := blk_frozen hxS 0; have z1 := blk_frozen hxS 1; clear hgS hxS hbS))
  refine gen2 (φ := fun W => Code.wp _ _ _ _ W) (P := fun W => LdZ w gR gS f (.slice none 0 0) [] [] W) ⟨below_set (below_set BS.out GS_.out) GS_.out, blk_far (blk_far XR1.out NE.out _) NE.out _, by simpa using blk_set (blk_set XS.out 0 (.bool f)) 1 (.slice none 0 0), Kd.R_nil _ _ _ _ _, ⟨rfl, fun j cs x h => by simp at h⟩⟩ ?_
  clear q0 q1 z0 z1 XS XR1 BS BR XR
  rintro V hV
  have LV := Lib.hid hV
  clear hV
  go_wp2
  go_loopw [15] (fun s15 wr => ∃ (kk : Nat) (v : Value) (xss : List (List Value)), kk ≤ xs.length ∧ s15 = .int .i64 (kk : Int) ∧ Hid (LdZ w gR gS f v xss (xs.take kk) wr) ∧ Hid (∀ j x, xs[j]? = some x → j < kk → okB x = true)) (fun s15 _ => xs.length - cntV s15)
  case atStart => exact ⟨0, _, _, Nat.zero_le _, rfl, by simpa using LV, Lib.hid (fun j x _ h => absurd h (Nat.not_lt_zero _))⟩
  case round =>
    obtain ⟨kk, v, xss, hkk, rfl, LW, OW⟩ := hrel
    by_cases hlt : kk < xs.length
    · have d1 : decide ((kk : Int) < (xs.length : Int)) = true := by simp; omega
      have b1 : (0 : Int) ≤ (kk : Int) := by omega
      have b2 : (kk : Int) < (xs.length : Int) := by omega
      obtain ⟨x, hx⟩ : ∃ x, xs[kk]? = some x := ⟨_, List.getElem?_eq_getElem hlt⟩
      have ZX := Lib.hid (HZ.out x (List.mem_of_getElem? hx))
      obtain ⟨ad, A3, c3, A4, c4, e0, y0, y1, y2, y3, y4, hgr⟩ := at_G (Kd.C_below HR.out LW.out.b) hx hlt
      subst e0
      have HG := Lib.hid hgr
      have HX := Lib.hid hx
      clear hgr hx
      go_upto_region 5 with (first | ((with_reducible refine gate_dst (N := 8) rfl ?_); refine box_event ?hg (N := 8) ?hd (cs := #[.int .i64 0, .int .i64 0, .string ByteArray.empty, .slice none 0 0, .slice none 0 0]) (t := 33) ?hr ?_; (case hd => rfl); (case hg => rfl); (case hr => first | (go_simp; done) | (go_simp; rfl)); intro gA hgA wA hxA hbA; have GA := Lib.hid (show wr.heap.size ≤ gA by rw [hgA]; exact Nat.le_refl _); have BA := Lib.hid hbA; have XA := Lib.hid hxA; have q0 := (blk_cell hxA 0).trans rfl; have q1 := (blk_cell hxA 1).trans rfl; have q2 := (blk_cell hxA 2).trans rfl; have q3 := (blk_cell hxA 3).trans rfl; have q4 := (blk_cell hxA 4).trans rfl; have z0 := blk_frozen hxA 0; have z1 := blk_frozen hxA 1; have z2 := blk_frozen hxA 2; have z3 := blk_frozen hxA 3; have z4 := blk_frozen hxA 4; clear hgA hxA hbA))
      refine gen2 (φ := fun W => Code.wp _ _ _ _ W) (P := fun W => Below wr.heap.size wr W ∧ W.heap[gA]? = some (.cells (gC x A3 c3 A4 c4) 33 (0, 0)))
        ⟨below_set (below_set (below_set (below_set (below_set BA.out GA.out) GA.out) GA.out) GA.out) GA.out, by simpa using blk_set (blk_set (blk_set (blk_set (blk_set XA.out 0 (.int .i64 x.f0)) 1 (.int .i64 x.f1)) 2 (.string x.f2)) 3 (.slice A3 x.f3.length c3)) 4 (.slice A4 x.f4.length c4)⟩ ?_
      clear q0 q1 q2 q3 q4 z0 z1 z2 z3 z4 XA BA GA y0 y1 y2 y3 y4
      rintro V5 ⟨hb5, hx5⟩
      have L5 := Lib.hid (LW.out.next hb5)
      have G5 := Lib.hid (HG.out.below hb5)
      have a0 := (blk_cell hx5 0).trans rfl
      have a1 := (blk_cell hx5 1).trans rfl
      have a2 := (blk_cell hx5 2).trans rfl
      have a3 := (blk_cell hx5 3).trans rfl
      have a4 := (blk_cell hx5 4).trans rfl
      clear hb5 hx5 HG LW
      cases hok : okB x with
      | false =>
        have OK := Lib.hid hok
        clear hok
        go_wp2_with fail
        (go_at_call 22; refine (segLoad_bad x A3 c3 A4 c4 _ (HT.out.below L5.out.b) G5.out ZX.out OK.out).mono ?_; rintro e w6 ⟨rfl, hb6⟩)
        have L6 := Lib.hid (L5.out.next hb6)
        clear hb6 L5 G5 a0 a1 a2 a3 a4
        go_upto_region 6 with (first | ((with_reducible refine gate_dst (N := 9) rfl ?_); refine box_event ?hg (N := 9) ?hd (cs := #[.int .i64 0, .int .i64 0, .pointer none, .slice none 0 0, .slice none 0 0]) (t := 57) ?hr ?_; (case hd => rfl); (case hg => rfl); (case hr => first | (go_simp; done) | (go_simp; rfl)); intro gB hgB wB hxB hbB; have GB := Lib.hid (show w6.heap.size ≤ gB by rw [hgB]; exact Nat.le_refl _); have BB := Lib.hid hbB; have q0 := (blk_cell hxB 0).trans rfl; have q1 := (blk_cell hxB 1).trans rfl; have q2 := (blk_cell hxB 2).trans rfl; have q3 := (blk_cell hxB 3).trans rfl; have q4 := (blk_cell hxB 4).trans rfl; have z0 := blk_frozen hxB 0; have z1 := blk_frozen hxB 1; have z2 := blk_frozen hxB 2; have z3 := blk_frozen hxB 3; have z4 := blk_frozen hxB 4; clear hgB hxB hbB))
        refine gen2 (φ := fun W => Code.wp _ _ _ _ W) (P := fun W => Below w6.heap.size w6 W) (below_set (below_set (below_set (below_set (below_set BB.out GB.out) GB.out) GB.out) GB.out) GB.out) ?_
        clear q0 q1 q2 q3 q4 z0 z1 z2 z3 z4 BB GB
        rintro V7 hb7
        have L7 := Lib.hid (L6.out.next hb7)
        clear hb7 L6
        have r0 := (blk_cell L7.out.hR 0).trans rfl
        have r1 := (blk_cell L7.out.hR 1).trans rfl
        have f0 := blk_frozen L7.out.hR 0
        have f1 := blk_frozen L7.out.hR 1
        go_wp2
        refine bodyPost_ret (results_ct rfl _ _ gR 27 #[.bool false, .slice none 0 0] (0, 0) _ rfl (by simpa using blk_set (blk_set L7.out.hR 0 (.bool false)) 1 (.slice none 0 0)) Tryd.underlying27 rfl (by kernel_rfl)) rfl ?_
        exact .inr ⟨(fun h => by have := h.1 x (List.mem_of_getElem? HX.out); rw [OK.out] at this; cases this), rfl, below_set (below_set L7.out.b GR_.out) GR_.out⟩
      | true =>
        have OK := Lib.hid hok
        clear hok
        go_wp2_with fail
        (go_at_call 22; refine (segLoad_good x A3 c3 A4 c4 _ (HT.out.below L5.out.b) G5.out ZX.out OK.out).mono ?_; rintro e w6 ⟨p, A6, c6, B6, d6, rfl, hs6, hb6⟩)
        have L6 := Lib.hid (L5.out.next hb6)
        have S6 := Lib.hid hs6
        clear hb6 hs6 L5 G5 a0 a1 a2 a3 a4
        go_upto_region 6 with (first | ((with_reducible refine gate_dst (N := 9) rfl ?_); refine box_event ?hg (N := 9) ?hd (cs := #[.int .i64 0, .int .i64 0, .pointer none, .slice none 0 0, .slice none 0 0]) (t := 57) ?hr ?_; (case hd => rfl); (case hg => rfl); (case hr => first | (go_simp; done) | (go_simp; rfl)); intro gB hgB wB hxB hbB; have GB := Lib.hid (show w6.heap.size ≤ gB by rw [hgB]; exact Nat.le_refl _); have BB := Lib.hid hbB; have XB := Lib.hid hxB; have q0 := (blk_cell hxB 0).trans rfl; have q1 := (blk_cell hxB 1).trans rfl; have q2 := (blk_cell hxB 2).trans rfl; have q3 := (blk_cell hxB 3).trans rfl; have q4 := (blk_cell hxB 4).trans rfl; have z0 := blk_frozen hxB 0; have z1 := blk_frozen hxB 1; have z2 := blk_frozen hxB 2; have z3 := blk_frozen hxB 3; have z4 := blk_frozen hxB 4; clear hgB hxB hbB))
        refine gen2 (φ := fun W => Code.wp _ _ _ _ W) (P := fun W => Below w6.heap.size w6 W ∧ W.heap[gB]? = some (.cells (sgC x p A6 c6 B6 d6) 57 (0, 0))) ⟨below_set (below_set (below_set (below_set (below_set BB.out GB.out) GB.out) GB.out) GB.out) GB.out, by simpa using blk_set (blk_set (blk_set (blk_set (blk_set XB.out 0 (.int .i64 x.f0)) 1 (.int .i64 x.f1)) 2 (.pointer p)) 3 (.slice A6 x.f3.length c6)) 4 (.slice B6 x.f4.length d6)⟩ ?_
        clear q0 q1 q2 q3 q4 z0 z1 z2 z3 z4 BB GB XB
        rintro V7 ⟨hb7, hx7⟩
        have L7 := Lib.hid (L6.out.next hb7)
        have S7 := Lib.hid (S6.out.below hb7)
        have a0 := (blk_cell hx7 0).trans rfl
        have a1 := (blk_cell hx7 1).trans rfl
        have a2 := (blk_cell hx7 2).trans rfl
        have a3 := (blk_cell hx7 3).trans rfl
        have a4 := (blk_cell hx7 4).trans rfl
        have s1 := (blk_cell L7.out.hS 1).trans rfl
        have LN : Hid (xss.length = kk) := Lib.hid (by have := L7.out.sgs.1; rw [List.length_take] at this; omega)
        have TK := Lib.hid (takeG HX.out)
        clear hb7 hx7 L6 S6
        go_wp2_with (first | ((with_reducible refine gate_builtin (b := .append) rfl ?_); refine Kd.R_append kQ (w0 := w) w.heap.size rfl _ _ 25 57 (.agg #[.int .i64 0, .int .i64 0, .pointer none, .slice none 0 0, .slice none 0 0]) 72 rfl Tryd.underlying25 infoC57 rfl (by decide) (by decide) v xss [.int .i64 x.f0, .int .i64 x.f1, .pointer p, .slice A6 x.f3.length c6, .slice B6 x.f4.length d6] [.int .i64 x.f0, .int .i64 x.f1, .pointer p, .slice A6 x.f3.length c6, .slice B6 x.f4.length d6] (fun _ => True) (fun _ => False) rfl rfl ⟨rfl, rfl, one5⟩ (fun _ hk => hk.elim) (fun _ _ => trivial) ?aO ?aB ?aS ?aL ?_; (case aO => exact L7.out.row); (case aB => exact L7.out.b); (case aS => exact L7.out.b.size); (case aL => have := LN.out; omega); intro v8 w8 ho8 hb8 hg8 hat8; obtain ⟨Av, cv, ev⟩ := Kd.R_slice ho8; rw [List.length_append, List.length_singleton] at ev; subst ev; have e8 := (R_typeQ L7.out.row hg8 (by decide) _ _ L7.out.hS).trans L7.out.hS; have t1 := (blk_cell e8 1).trans rfl; have u1 := blk_frozen e8 1; have L8 := Lib.hid (L7.out.more ⟨p, A6, c6, B6, d6, rfl, S7.out⟩ ho8 hg8 hb8 NE.out GS_.out); clear ho8 hb8 hg8 hat8 e8))
        go_roundw
        case rel =>
          refine ⟨kk + 1, _, _, by omega, by go_num, by rw [TK.out]; exact L8, Lib.hid (fun j y hj hlt' => ?_)⟩
          rcases Nat.lt_or_ge j kk with h1 | h1
          · exact OW.out j y hj h1
          · obtain rfl : j = kk := by omega
            rw [HX.out] at hj
            injection hj with hj
            rw [← hj]
            exact OK.out
        case measure =>
          simp only [cntV]
          omega
    · have d1 : decide ((kk : Int) < (xs.length : Int)) = false := by simp; omega
      obtain rfl : kk = xs.length := by omega
      rw [List.take_length] at LW
      obtain ⟨A7, c7, e7⟩ := Kd.R_slice LW.out.row
      subst e7
      have OA : Hid (∀ x ∈ xs, okB x = true) := Lib.hid (fun x hx => by
        obtain ⟨j, hj⟩ := List.getElem?_of_mem hx
        exact OW.out j x hj (List.getElem?_eq_some_iff.1 hj).1)
      have s1 := (blk_cell LW.out.hS 1).trans rfl
      have hC := Kd.R_reads' LW.out.row
      have HC := Lib.hid hC
      have LN : Hid (xss.length = xs.length) := Lib.hid LW.out.sgs.1.symm
      clear hC OW
      go_wp2_with fail
      (go_at_call 23; refine (twice_calls A7 c7 xss xs _ HC.out.2.2 LW.out.sgs (by have := LN.out; omega) HW.out).mono ?_; rintro e w9 ⟨rfl, hb9⟩)
      have L9 := Lib.hid (LW.out.next hb9)
      have r0 := (blk_cell L9.out.hR 0).trans rfl
      have r1 := (blk_cell L9.out.hR 1).trans rfl
      have f0 := blk_frozen L9.out.hR 0
      have f1 := blk_frozen L9.out.hR 1
      clear hb9 LW s1 HC
      cases ht : twB xs with
      | true =>
        have HTW : Hid (¬ (xs.map (·.f0)).Nodup) := Lib.hid (by simpa [twB] using ht)
        clear ht
        go_wp2
        refine bodyPost_ret (results_ct rfl _ _ gR 27 #[.bool false, .slice none 0 0] (0, 0) _ rfl (by simpa using blk_set (blk_set L9.out.hR 0 (.bool false)) 1 (.slice none 0 0)) Tryd.underlying27 rfl (by kernel_rfl)) rfl ?_
        exact .inr ⟨fun h => HTW.out h.2, rfl, below_set (below_set L9.out.b GR_.out) GR_.out⟩
      | false =>
        have HTW : Hid ((xs.map (·.f0)).Nodup) := Lib.hid (by simpa [twB] using ht)
        clear ht
        have s0 := (blk_cell L9.out.hS 0).trans rfl
        have s1 := (blk_cell L9.out.hS 1).trans rfl
        have SH0 := Lib.hid (Sh.of L9.out.row L9.out.sgs)
        go_wp2
        refine bodyPost_ret (results_ct rfl _ _ gR 27 #[.bool f, .slice A7 xss.length c7] (0, 0) _ rfl (by simpa using blk_set (blk_set L9.out.hR 0 (.bool f)) 1 (.slice A7 xss.length c7)) Tryd.underlying27 rfl (by kernel_rfl)) rfl ?_
        exact .inl ⟨⟨OA.out, HTW.out⟩, A7, c7, xss, by rw [LN.out]; rfl, (SH0.out.set L9.out.hR 0 _).set (blk_set L9.out.hR 0 _) 1 _, below_set (below_set L9.out.b GR_.out) GR_.out⟩
end Go.Proofs.YtlcfhmnjdkhkoaaDoor.Seg
/- Sheets: the walks of slices.Clone at segments, Segs, Frozen, ids, Plain. Conditions: at most 2^40 segments, of at most 2^40 bytes, spans, sites each. -/
namespace Go.Proofs.YtlcfhmnjdkhkoaaDoor.Seg
open Go.RowKit Go.Maps Go.Proofs.YtlcfhmnjdkhkoaaDoorW.PrintWords Go.Proofs.YtlcfhmnjdkhkoaaDoorW.PrintLast Go.Proofs.YtlcfhmnjdkhkoaaDoorW.PrintMore Go.Proofs.YtlcfhmnjdkhkoaaDoor.Rope Go.Proofs.YtlcfhmnjdkhkoaaDoor.PViewRuns Go.Proofs.YtlcfhmnjdkhkoaaDoor.Pure
set_option linter.unusedVariables false
set_option linter.unusedSimpArgs false
set_option maxRecDepth 100000 in
set_option maxHeartbeats 800000 in
theorem cloneQ (A : Option Addr) (c : Nat) (xs : List (List Value)) (w : World) (hr : Kd.C kQ w A xs.length xs) (hc : xs.length ≤ c) (hl : xs.length * 72 ≤ 140737488355328) :
    Calls Tryd.prog 42 #[.slice A xs.length c] w fun e w' => ∃ v, e = .returned v ∧ Kd.R kQ 57 w' w.heap.size (fun _ => True) v xs ∧ Below w.heap.size w w' := by
  have qn : ∀ (w : World) (a : Option Addr) (n c : Nat), (binOp .eql 25 (.slice a n c) (.slice none 0 0)).run Tryd.prog w = .ok (.bool a.isNone) w := fun w a n c => Lib.run_eql_slice_nil w _ _ a n c 0 0 Tryd.underlying25
  have HR := Lib.hid hr
  have HC := Lib.hid hc
  have HL := Lib.hid hl
  cases A with
  | none =>
    have hx : xs = [] := by
      rcases Nat.eq_zero_or_pos xs.length with h0 | h0
      · exact List.length_eq_zero_iff.1 h0
      · obtain ⟨_, e, _⟩ := hr.2.2 h0
        cases e
    clear hr hc hl
    go_enter Tryd.func42, Tryd.ntmps42
    go_wp2
    go_ret
    subst hx
    exact ⟨_, rfl, Kd.R_nil _ _ _ _ _, Below.refl _ _⟩
  | some ad =>
    clear hr hc hl
    go_enter Tryd.func42, Tryd.ntmps42
    go_wp2_with (first
      | ((with_reducible refine gate_dst (N := 5) rfl ?_)
         refine Kd.R_lit kQ _ 57 ?hg (N := 5) ?hd (xs := ([] : List (List Value))) (inner := []) (ok := fun _ => True) (okp := fun _ => True) ?hr ?hp (fun _ hk => hk) trivial (Below.refl _ _) (Nat.le_refl _) (by simp) ?_
         (case hd => rfl); (case hg => rfl); (case hr => first | (go_simp; done) | (go_simp; rfl)); (case hp => exact Reps.none _ _)
         intro v1 w1 HO HB hg hat; have HO1 := Lib.hid HO; have HB1 := Lib.hid HB; clear HO HB hg hat)
      | ((with_reducible refine gate_dst (N := 7) rfl ?_)
         refine Kd.R_append_rows kQ _ ?hg (.tmp 5) (.tmp 6) 25 57 (.agg #[.int .i64 0, .int .i64 0, .pointer none, .slice none 0 0, .slice none 0 0]) 72 rfl Tryd.underlying25 infoC57 rfl (by decide) (by decide) _ [] xs (some ad) xs.length c (fun _ => True) (fun k => some k ≠ v1.ownBlock) rfl rfl HO1.out (Kd.C_below HR.out HB1.out) (fun x cs h => h) (fun _ h => ⟨trivial, h⟩) (fun _ _ => trivial) HB1.out (HB1.out.size) (by have := HL.out; simpa using this) ?_
         (case hg => rfl)
         intro v2 w2 HO HB hg hat; have HO2 := Lib.hid HO; have HB2 := Lib.hid HB; clear HO HB hg hat))
    go_ret
    exact ⟨_, rfl, HO2.out, HB2.out⟩
set_option maxRecDepth 100000 in
set_option maxHeartbeats 800000 in
theorem segs_calls (f : Bool) (A : Option Addr) (c : Nat) (xss : List (List Value)) (xs : List G) (w : World) (h : Sh w A c xss xs) (hl : xss.length ≤ 1099511627776) : Calls Tryd.prog 24 #[.agg #[.bool f, .slice A xss.length c]] w fun e w' => ∃ v, e = .returned v ∧ Kd.R kQ 57 w' w.heap.size (fun _ => True) v xss ∧ Below w.heap.size w w' := by
  have HS := Lib.hid h
  clear h
  go_enter Tryd.func24, Tryd.ntmps24
  go_wp2_with fail
  have B0 := Lib.hid (below_alloc (Below.refl w.heap.size w) (.cells #[.bool f, .slice A xss.length c] 27))
  (go_at_call 42; refine (cloneQ A c xss _ (Kd.C_below HS.out.row B0.out) HS.out.cap (by omega)).mono ?_; rintro e w1 ⟨v1, rfl, hr1, hb1⟩)
  have B1 := Lib.hid (below_step B0.out hb1)
  have R1 := Lib.hid (Kd.R_lower hr1 B0.out.size)
  clear hr1 hb1
  go_wp2
  go_ret
  exact ⟨v1, rfl, R1.out, B1.out⟩
end Go.Proofs.YtlcfhmnjdkhkoaaDoor.Seg
/- Sheets: the walks of ids and Plain. Conditions: at most 2^40 segments, of at most 2^40 bytes, spans, sites each. -/
namespace Go.Proofs.YtlcfhmnjdkhkoaaDoor.Seg
open Go.RowKit Go.Maps Go.Proofs.YtlcfhmnjdkhkoaaDoorW.PrintWords Go.Proofs.YtlcfhmnjdkhkoaaDoorW.PrintLast Go.Proofs.YtlcfhmnjdkhkoaaDoorW.PrintMore Go.Proofs.YtlcfhmnjdkhkoaaDoor.Rope Go.Proofs.YtlcfhmnjdkhkoaaDoor.PViewRuns Go.Proofs.YtlcfhmnjdkhkoaaDoor.Pure
set_option linter.unusedVariables false
set_option linter.unusedSimpArgs false
theorem R_typeD {α : Type} {d : Kd α} {e : Nat} {W W' : World} {base : Nat} {ok : Nat → Prop} {v : Value} {ys : List α} (h : d.R e W base ok v ys) (hg : W.grownBy W' v.ownBlock) {t : TypeId} (ht : t ≠ e) : ∀ (g : Nat) (cs : Array Value), W.heap[g]? = some (.cells cs t (0, 0)) → W'.heap[g]? = W.heap[g]? := by
  intro g cs hc
  obtain ⟨i, o⟩ := Kd.R_own h
  refine hg.block g (blk_lt hc) (fun e => ?_)
  obtain ⟨cs', hc'⟩ := own_typed o g e.symm
  rw [hc] at hc'
  injection hc' with hc'
  injection hc' with _ h2 _
  exact ht h2
theorem Sh.grown {α : Type} {d : Kd α} {e : Nat} {W W' : World} {A : Option Addr} {c : Nat} {xss : List (List Value)} {xs : List G} (h : Sh W A c xss xs) {base : Nat} {ok : Nat → Prop} {v : Value} {ys : List α} (hr : d.R e W base ok v ys) (hg : W.grownBy W' v.ownBlock) (e1 : 57 ≠ e) (e2 : 78 ≠ e) (e3 : 81 ≠ e) (e4 : 93 ≠ e) : Sh W' A c xss xs :=
  ⟨h.len, h.cap, C_moveK (fun _ _ => kQ_any) h.row (fun ad e => by obtain ⟨cs, hc⟩ := h.ty ad e; exact R_typeD hr hg e1 _ cs hc), h.sgs.move (R_typeD hr hg e2) (R_typeD hr hg e3) (R_typeD hr hg e4), fun ad e => by obtain ⟨cs, hc⟩ := h.ty ad e; exact ⟨cs, (R_typeD hr hg e1 _ cs hc).trans hc⟩⟩
theorem infoC3 : (Tryd.prog.info? 3).map (fun i => (i.zero, i.size, i.bytes)) = some (some (.int .i64 0), 1, 8) := by kernel_rfl
/-- What holds all along ids. -/
structure IdS (w : World) (A : Option Addr) (c : Nat) (xss : List (List Value)) (xs : List G) (v : Value) (is : List Int) (W : World) : Prop where
  b : Below w.heap.size w W
  sh : Sh W A c xss xs
  row : Kd.R (Kd.int .i64) 3 W w.heap.size (fun _ => True) v is
theorem IdS.next {w W W' : World} {A : Option Addr} {c : Nat} {xss : List (List Value)} {xs : List G} {v : Value} {is : List Int} (h : IdS w A c xss xs v is W) (hb : Below W.heap.size W W') : IdS w A c xss xs v is W' := ⟨below_step h.b hb, h.sh.below hb, Kd.R_below h.row hb⟩
def RetIds (xs : List G) (w : World) (e : Ending) (w' : World) : Prop := ∃ v, e = .returned v ∧ Kd.R (Kd.int .i64) 3 w' w.heap.size (fun _ => True) v (xs.map (·.f0)) ∧ Below w.heap.size w w'
end Go.Proofs.YtlcfhmnjdkhkoaaDoor.Seg
/- Sheets: the walk of Plain. Conditions: at most 2^40 segments, of at most 2^40 bytes, spans, sites each. -/
namespace Go.Proofs.YtlcfhmnjdkhkoaaDoor.Seg
open Go.RowKit Go.Maps Go.Proofs.YtlcfhmnjdkhkoaaDoorW.PrintWords Go.Proofs.YtlcfhmnjdkhkoaaDoorW.PrintLast Go.Proofs.YtlcfhmnjdkhkoaaDoorW.PrintMore Go.Proofs.YtlcfhmnjdkhkoaaDoor.Rope Go.Proofs.YtlcfhmnjdkhkoaaDoor.PViewRuns Go.Proofs.YtlcfhmnjdkhkoaaDoor.Pure
set_option linter.unusedVariables false
set_option linter.unusedSimpArgs false
theorem infoC33 : (Tryd.prog.info? 33).map (fun i => (i.zero, i.size, i.bytes)) = some (some (.agg #[.int .i64 0, .int .i64 0, .string ⟨#[]⟩, .slice none 0 0, .slice none 0 0]), 5, 80) := by kernel_rfl
/-- What holds all along Plain. -/
structure PlZ (w : World) (A : Option Addr) (c : Nat) (xss : List (List Value)) (xs : List G) (v : Value) (is : List G) (W : World) : Prop where
  b : Below w.heap.size w W
  sh : Sh W A c xss xs
  row : Kd.R kG 33 W w.heap.size (fun _ => True) v is
theorem PlZ.next {w W W' : World} {A : Option Addr} {c : Nat} {xss : List (List Value)} {xs : List G} {v : Value} {is : List G} (h : PlZ w A c xss xs v is W) (hb : Below W.heap.size W W') : PlZ w A c xss xs v is W' := ⟨below_step h.b hb, h.sh.below hb, Kd.R_below h.row hb⟩
def RetPlS (xs : List G) (w : World) (e : Ending) (w' : World) : Prop := ∃ v, e = .returned v ∧ Kd.R kG 33 w' w.heap.size (fun _ => True) v xs ∧ Below w.heap.size w w'
end Go.Proofs.YtlcfhmnjdkhkoaaDoor.Seg
