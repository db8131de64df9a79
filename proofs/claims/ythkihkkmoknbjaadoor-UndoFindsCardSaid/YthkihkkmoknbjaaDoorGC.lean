/- Undo's things: an insertion; a deletion and its text. What it is for a value to be one; their marks, documents, labels. -/
import Derived.Test.YthkihkkmoknbjaaDoorGB
import Derived.Test.YthkihkkmoknbjaaDoorPUndoFindsx0
import Derived.Test.YthkihkkmoknbjaaDoorPUndoFindsx1
import Derived.Test.YthkihkkmoknbjaaDoorPUndoFindsx2
import Derived.Test.YthkihkkmoknbjaaDoorPUndoFindsx3
import Derived.Test.YthkihkkmoknbjaaDoorPUndoFindsx4
import Derived.Test.YthkihkkmoknbjaaDoorPl
import Derived.WalkSpells
import Derived.Deep.RegionHeld3
namespace Go.Proofs.YthkihkkmoknbjaaDoor.Undo
open Go.RowKit Go.Proofs.YthkihkkmoknbjaaDoorW.PrintWords Go.Proofs.YthkihkkmoknbjaaDoorW.PrintLast Go.Proofs.YthkihkkmoknbjaaDoorW.PrintMore Go.Proofs.YthkihkkmoknbjaaDoor.Rope
set_option linter.unusedVariables false
set_option linter.unusedSimpArgs false
inductive Th where
  | put (d m l : Int)
  | took (d m l : Int) (s : ByteArray)
namespace Th
def doc : Th → Int
  | put d _ _ => d
  | took d _ _ _ => d
def mark : Th → Int
  | put _ m _ => m
  | took _ m _ _ => m
def label : Th → Int
  | put _ _ l => l
  | took _ _ l _ => l
end Th
/-- v is the thing t. -/
def ThR (w : World) (v : Value) : Th → Prop
  | .put d m l => v = .iface 27 (.agg #[.int .i64 d, .int .i64 m, .int .i64 l])
  | .took d m l s => ∃ p, Rp w p s ∧ v = .iface 60 (.agg #[.int .i64 d, .int .i64 m, .int .i64 l, .pointer p])
theorem ThR.below {w w1 : World} {v : Value} {t : Th} (h : ThR w v t) (hb : Below w.heap.size w w1) : ThR w1 v t := by
  cases t with
  | put d m l => exact h
  | took d m l s => obtain ⟨p, h, e⟩ := h; exact ⟨p, h.below hb, e⟩
theorem ThR.move {w w1 : World} (hm : ∀ (g : Nat) (cs : Array Value), w.heap[g]? = some (.cells cs 84 (0, 0)) → w1.heap[g]? = w.heap[g]?) {v : Value} {t : Th} (h : ThR w v t) : ThR w1 v t := by
  cases t with
  | put d m l => exact h
  | took d m l s => obtain ⟨p, h, e⟩ := h; exact ⟨p, h.move hm, e⟩
end Go.Proofs.YthkihkkmoknbjaaDoor.Undo
/- The walk of undo.Mark. -/
namespace Go.Proofs.YthkihkkmoknbjaaDoor.Undo
open Go.RowKit Go.Proofs.YthkihkkmoknbjaaDoorW.PrintWords Go.Proofs.YthkihkkmoknbjaaDoorW.PrintLast Go.Proofs.YthkihkkmoknbjaaDoorW.PrintMore Go.Proofs.YthkihkkmoknbjaaDoor.Rope
@[go_sem] theorem as_pp (v : Value) (w : World) : (Instr.typeAssert (.iface 27 v) 20 27 true).run Tryd.prog w = .ok (.tuple #[v, .bool true]) w := by kernel_rfl
@[go_sem] theorem as_tt (v : Value) (w : World) : (Instr.typeAssert (.iface 60 v) 20 60 true).run Tryd.prog w = .ok (.tuple #[v, .bool true]) w := by kernel_rfl
@[go_sem] theorem as_tp (v : Value) (w : World) : (Instr.typeAssert (.iface 60 v) 20 27 true).run Tryd.prog w = .ok (.tuple #[.agg #[.int .i64 0, .int .i64 0, .int .i64 0], .bool false]) w := by kernel_rfl
@[go_sem] theorem as_pt (v : Value) (w : World) : (Instr.typeAssert (.iface 27 v) 20 60 true).run Tryd.prog w = .ok (.tuple #[.agg #[.int .i64 0, .int .i64 0, .int .i64 0, .pointer none], .bool false]) w := by kernel_rfl
@[go_sem] theorem as_t (v : Value) (w : World) : (Instr.typeAssert (.iface 60 v) 20 60 false).run Tryd.prog w = .ok v w := by kernel_rfl
set_option maxRecDepth 1000000 in
theorem mark_calls (t : Th) (v : Value) (w : World) (h : ThR w v t) : Calls Tryd.prog 8 #[v] w fun e w' => e = .returned (.tuple #[.int .i64 t.mark, .bool true]) ∧ Below w.heap.size w w' := by
  cases t with
  | put d m l =>
    have e : v = _ := h
    subst e
    go_enter Tryd.func8, Tryd.ntmps8
    go_wp2
    go_ret2
    exact ⟨rfl, below_alloc (Below.refl _ _) _⟩
  | took d m l s =>
    obtain ⟨p, hp, rfl⟩ := h
    have HP := Lib.hid hp
    clear hp
    go_enter Tryd.func8, Tryd.ntmps8
    go_wp2
    go_ret2
    refine ⟨rfl, ?_⟩
    repeat (first | exact Below.refl _ _ | apply below_alloc | apply Below.alloc)
@[go_sem] theorem fd_t0 (a b c e : Value) (w : World) : (Instr.field 60 (.agg #[a, b, c, e]) 0).run Tryd.prog w = .ok a w := by kernel_rfl
@[go_sem] theorem fd_t3 (a b c e : Value) (w : World) : (Instr.field 60 (.agg #[a, b, c, e]) 3).run Tryd.prog w = .ok e w := by kernel_rfl
set_option maxRecDepth 1000000 in
theorem doc_calls (t : Th) (v : Value) (w : World) (h : ThR w v t) : Calls Tryd.prog 30 #[v] w fun e w' => e = .returned (.int .i64 t.doc) ∧ Below w.heap.size w w' := by
  cases t with
  | put d m l =>
    have e : v = _ := h
    subst e
    go_enter Tryd.func30, Tryd.ntmps30
    go_wp2
    go_ret
    refine ⟨rfl, ?_⟩
    repeat (first | exact Below.refl _ _ | apply below_alloc | apply Below.alloc)
  | took d m l s =>
    obtain ⟨p, hp, rfl⟩ := h
    have HP := Lib.hid hp
    clear hp
    go_enter Tryd.func30, Tryd.ntmps30
    go_wp2
    go_ret
    refine ⟨rfl, ?_⟩
    repeat (first | exact Below.refl _ _ | apply below_alloc | apply Below.alloc)
set_option maxRecDepth 1000000 in
theorem label_calls (t : Th) (v : Value) (w : World) (h : ThR w v t) : Calls Tryd.prog 12 #[v] w fun e w' => e = .returned (.int .i64 t.label) ∧ Below w.heap.size w w' := by
  cases t with
  | put d m l =>
    have e : v = _ := h
    subst e
    go_enter Tryd.func12, Tryd.ntmps12
    go_wp2
    go_ret
    refine ⟨rfl, ?_⟩
    repeat (first | exact Below.refl _ _ | apply below_alloc | apply Below.alloc)
  | took d m l s =>
    obtain ⟨p, hp, rfl⟩ := h
    have HP := Lib.hid hp
    clear hp
    go_enter Tryd.func12, Tryd.ntmps12
    go_wp2
    go_ret
    refine ⟨rfl, ?_⟩
    repeat (first | exact Below.refl _ _ | apply below_alloc | apply Below.alloc)
end Go.Proofs.YthkihkkmoknbjaaDoor.Undo
/- Stacks: rows of things. Loading of plain values. -/
namespace Go.Proofs.YthkihkkmoknbjaaDoor.Undo
open Go.RowKit Go.Proofs.YthkihkkmoknbjaaDoorW.PrintWords Go.Proofs.YthkihkkmoknbjaaDoorW.PrintLast Go.Proofs.YthkihkkmoknbjaaDoorW.PrintMore Go.Proofs.YthkihkkmoknbjaaDoor.Rope Go.Proofs.YthkihkkmoknbjaaDoor.PUndoFinds
set_option linter.unusedVariables false
set_option linter.unusedSimpArgs false
abbrev encI (p : TypeId × Value) : Value := .iface p.1 p.2
/-- The values xs are the things ts. -/
def Ths (w : World) (xs : List (TypeId × Value)) (ts : List Th) : Prop := ts.length = xs.length ∧ ∀ (j : Nat) x t, xs[j]? = some x → ts[j]? = some t → ThR w (encI x) t
theorem Ths.below {w w1 : World} {xs : List (TypeId × Value)} {ts : List Th} (h : Ths w xs ts) (hb : Below w.heap.size w w1) : Ths w1 xs ts := ⟨h.1, fun j x t h1 h2 => (h.2 j x t h1 h2).below hb⟩
theorem Ths.move {w w1 : World} (hm : ∀ (g : Nat) (cs : Array Value), w.heap[g]? = some (.cells cs 84 (0, 0)) → w1.heap[g]? = w.heap[g]?) {xs : List (TypeId × Value)} {ts : List Th} (h : Ths w xs ts) : Ths w1 xs ts := ⟨h.1, fun j x t h1 h2 => (h.2 j x t h1 h2).move hm⟩
theorem Ths.snoc {w : World} {xs : List (TypeId × Value)} {ts : List Th} {x : TypeId × Value} {t : Th} (h : Ths w xs ts) (ht : ThR w (encI x) t) : Ths w (xs ++ [x]) (ts ++ [t]) := by
  refine ⟨by simp [h.1], fun j x' t' h1 h2 => ?_⟩
  rcases get_snoc h1 with h1 | ⟨e1, rfl⟩ <;> rcases get_snoc h2 with h2 | ⟨e2, rfl⟩
  · exact h.2 j x' t' h1 h2
  · have := (List.getElem?_eq_some_iff.1 h1).1
    have := h.1
    omega
  · have := (List.getElem?_eq_some_iff.1 h2).1
    have := h.1
    omega
  · exact ht
abbrev kI : Kd (TypeId × Value) := Kd.scalar encI (fun _ => rfl)
theorem add_blk (a : Addr) (i : Nat) : (a.add i).block = a.block := by unfold Addr.add; split <;> rfl
theorem cell_blk {w w1 : World} {a : Addr} (h : w1.heap[a.block]? = w.heap[a.block]?) : w1.cell? a = w.cell? a := by simp [World.cell?, h]
theorem C_moveI {w w1 : World} {A : Option Addr} {n : Nat} {xs : List (TypeId × Value)} (h : Kd.C kI w A n xs) (hm : ∀ ad, A = some ad → w1.heap[ad.block]? = w.heap[ad.block]?) : Kd.C kI w1 A n xs := by
  refine ⟨h.1, h.2.1, fun hn => ?_⟩
  obtain ⟨ad, e, hc⟩ := h.2.2 hn
  refine ⟨ad, e, fun j p hj => ?_⟩
  obtain ⟨c, h1, h2, h3⟩ := hc j p hj
  refine ⟨c, h1, h2, fun i u hu => ?_⟩
  rw [cell_blk (w := w) (by rw [add_blk]; exact hm ad e)]
  exact h3 i u hu
/-- v is a stack of these things: a row that reads as they. -/
def Stk (w : World) (v : Value) (ts : List Th) : Prop := ∃ A c xs, v = .agg #[.slice A xs.length c] ∧ xs.length ≤ c ∧ Kd.C kI w A xs.length xs ∧ Ths w xs ts ∧ ∀ ad, A = some ad → ∃ cs, w.heap[ad.block]? = some (.cells cs 20 (0, 0))
theorem Stk.below {w w1 : World} {v : Value} {ts : List Th} (h : Stk w v ts) (hb : Below w.heap.size w w1) : Stk w1 v ts := by
  obtain ⟨A, c, xs, e, h1, h2, h3, h4⟩ := h
  exact ⟨A, c, xs, e, h1, Kd.C_below h2 hb, h3.below hb, fun ad ea => by obtain ⟨cs, hc⟩ := h4 ad ea; exact ⟨cs, blk_below hc hb⟩⟩
theorem Stk.move {w w1 : World} {v : Value} {ts : List Th} (h : Stk w v ts) (m1 : ∀ (g : Nat) (cs : Array Value), w.heap[g]? = some (.cells cs 20 (0, 0)) → w1.heap[g]? = w.heap[g]?) (m2 : ∀ (g : Nat) (cs : Array Value), w.heap[g]? = some (.cells cs 84 (0, 0)) → w1.heap[g]? = w.heap[g]?) : Stk w1 v ts := by
  obtain ⟨A, c, xs, e, h1, h2, h3, h4⟩ := h
  exact ⟨A, c, xs, e, h1, C_moveI h2 (fun ad ea => by obtain ⟨cs, hc⟩ := h4 ad ea; exact m1 _ cs hc), h3.move m2, fun ad ea => by obtain ⟨cs, hc⟩ := h4 ad ea; exact ⟨cs, (m1 _ cs hc).trans hc⟩⟩
/-- The thing of plain values. -/
def thOf (x : S23) : Th := if x.f0 = 1 then .put x.f1 x.f2 x.f3 else .took x.f1 x.f2 x.f3 x.f4
/-- May they be loaded? -/
def okU (x : S23) : Prop := Lib.validD x.f4.data.toList = true ∧ (x.f0 = 1 ∧ x.f4.size = 0 ∨ x.f0 = 2)
end Go.Proofs.YthkihkkmoknbjaaDoor.Undo
/- The walk of undo.Load: plain values that may be a stack's are loaded. Conditions: texts of at most 2^40 bytes each; Go's two tables of utf8 as they are laid. -/
namespace Go.Proofs.YthkihkkmoknbjaaDoor.Undo
open Go.RowKit Go.Proofs.YthkihkkmoknbjaaDoorW.PrintWords Go.Proofs.YthkihkkmoknbjaaDoorW.PrintLast Go.Proofs.YthkihkkmoknbjaaDoorW.PrintMore Go.Proofs.YthkihkkmoknbjaaDoor.Rope Go.Proofs.YthkihkkmoknbjaaDoor.PUndoFinds
set_option linter.unusedVariables false
set_option linter.unusedSimpArgs false
theorem rp_nil {w : World} {p : Option Addr} {s : ByteArray} (h : Rp w p s) : p = none ↔ s.size = 0 := by
  obtain ⟨t, cs, hi, hs⟩ := h
  have hb : bytesO t = s.size := by rw [hi.g.bytes, ← hs, toList_size]
  constructor
  · rintro rfl
    cases t with
    | none => exact hb.symm
    | some t => obtain ⟨b, e, _⟩ := hi.r; cases e
  · intro h0
    cases t with
    | none => have e : Value.pointer p = .pointer none := hi.r; injection e
    | some t =>
      have := t.h_lt hi.g.ne
      have e : bytesO (some t) = t.bytes := rfl
      omega
theorem new_rp (s : ByteArray) (w : World) (hs : s.size ≤ 1099511627776) (hT : Tabs w) (hv : Lib.validD s.data.toList = true) :
    Calls Tryd.prog 26 #[.string s] w fun e w' => ∃ p, e = .returned (.tuple #[.pointer p, .bool true]) ∧ Rp w' p s ∧ Below w.heap.size w w' := by
  obtain ⟨cs, hl, h⟩ := (validD_iff _).1 hv
  refine (new_calls s w hs hT hl h).mono ?_
  rintro e w' ⟨v, rfl, hi, hb⟩
  obtain ⟨b, rfl, hr⟩ := hi.rp h
  exact ⟨b, rfl, hr, hb⟩
theorem info_any : (Tryd.prog.info? 20).map (fun i => (i.zero, i.size, i.bytes)) = some (some .nilIface, 1, 16) := by kernel_rfl
/-- What holds all along Load: its two boxes, the row of things. -/
structure LdS (w : World) (k0 k : Nat) (v : Value) (ys : List (TypeId × Value)) (ts : List Th) (W : World) : Prop where
  b0 : W.heap[k0]? = some (.cells #[.slice none 0 0] 38 (0, 0))
  b1 : W.heap[k]? = some (.cells #[v] 38 (0, 0))
  row : OwnE encI 20 W w.heap.size v ys
  ths : Ths W ys ts
  below : Below w.heap.size w W
theorem LdS.next {w W W' : World} {k0 k : Nat} {v : Value} {ys : List (TypeId × Value)} {ts : List Th} (h : LdS w k0 k v ys ts W) (hb : Below W.heap.size W W') : LdS w k0 k v ys ts W' :=
  ⟨blk_below h.b0 hb, blk_below h.b1 hb, h.row.below hb, h.ths.below hb, below_step h.below hb⟩
theorem set_type {W : World} {k : Nat} {cs0 : Array Value} {t0 : TypeId} (hk : W.heap[k]? = some (.cells cs0 t0 (0, 0))) {t : TypeId} (ht : t ≠ t0) (j : Nat) (u : Value) : ∀ (g : Nat) (cs : Array Value), W.heap[g]? = some (.cells cs t (0, 0)) → (W.setCell ⟨k, j, none⟩ u).heap[g]? = W.heap[g]? := by
  intro g cs hc
  exact Below.heap_setCell W ⟨k, j, none⟩ u g (blk_ne hc hk ht)
/-- A thing more. -/
theorem LdS.more {w W W' : World} {k0 k : Nat} {v v' : Value} {ys : List (TypeId × Value)} {ts : List Th} {y : TypeId × Value} {t : Th} (h : LdS w k0 k v ys ts W) (ht : ThR W (encI y) t)
    (ho : OwnE encI 20 W' w.heap.size v' (ys ++ [y])) (hg : W.grownBy W' v.ownBlock) (hb : Below w.heap.size w W') (hk : w.heap.size ≤ k) (hkk : k0 ≠ k) : LdS w k0 k v' (ys ++ [y]) (ts ++ [t]) (W'.setCell ⟨k, 0, none⟩ v') := by
  have b0 : W'.heap[k0]? = _ := (h.row.grown hg (t := 38) (by decide) _ _ h.b0).trans h.b0
  have b1 : W'.heap[k]? = _ := (h.row.grown hg (t := 38) (by decide) _ _ h.b1).trans h.b1
  refine ⟨blk_far b0 hkk _, blk_put b1 0 _ rfl, ho.move (set_type b1 (by decide) _ _), ?_, below_set hb hk⟩
  exact ((h.ths.snoc ht).move (h.row.grown hg (t := 84) (by decide))).move (set_type b1 (by decide) _ _)
theorem own_slice1 {α : Type} {enc : α → Value} {e : TypeId} {W : World} {base : Nat} {v : Value} {ys : List α} {y : α} (h : OwnE enc e W base v (ys ++ [y])) : ∃ A c, v = .slice A (ys.length + 1) c := by
  obtain ⟨h1, h2 | ⟨g, cap, cur, e1, _⟩⟩ := h
  · have := h2.2; simp at this
  · exact ⟨some ⟨g, 0, none⟩, cap, by rw [e1]; simp⟩
theorem own_slice0 {α : Type} {enc : α → Value} {e : TypeId} {W : World} {base : Nat} {v : Value} {ys : List α} (h : OwnE enc e W base v ys) : ∃ A c, v = .slice A ys.length c := by
  obtain ⟨h1, h2 | ⟨g, cap, cur, e1, _⟩⟩ := h
  · exact ⟨none, 0, by rw [h2.1, h2.2]⟩
  · exact ⟨some ⟨g, 0, none⟩, cap, e1⟩
/-- What Load leaves. -/
def RetLoad (xs : List S23) (w : World) (e : Ending) (w' : World) : Prop :=
  ∃ v b, e = .returned (.tuple #[v, .bool b]) ∧ (b = true → (∀ x ∈ xs, okU x) ∧ Stk w' v (xs.map thOf)) ∧ (b = false → (¬ ∀ x ∈ xs, okU x) ∧ v = .agg #[.slice none 0 0]) ∧ Below w.heap.size w w'
theorem own_stk {W : World} {base : Nat} {v : Value} {ys : List (TypeId × Value)} {ts : List Th} (h : OwnE encI 20 W base v ys) (ht : Ths W ys ts) : Stk W (.agg #[v]) ts := by
  obtain ⟨A, c, e, h1, h2⟩ := Kd.R_reads (Kd.R_of_own (h1 := fun _ => rfl) (ok := fun _ => True) h (fun _ _ => trivial))
  subst e
  exact ⟨A, c, ys, rfl, h1, h2, ht, fun ad ea => by subst ea; exact own_typed h ad.block rfl⟩
theorem loaded {xs : List S23} {w W : World} {v : Value} {ys : List (TypeId × Value)} {k0 k : Nat} (h : LdS w k0 k v ys (xs.map thOf) W) (hok : ∀ x ∈ xs, okU x) (hk0 : w.heap.size ≤ k0) (hkk : k ≠ k0) :
    RetLoad xs w (.returned (.tuple #[.agg #[v], .bool true])) (W.setCell ⟨k0, 0, none⟩ v) := by
  refine ⟨_, true, rfl, fun _ => ⟨hok, ?_⟩, (fun e => by cases e), below_set h.below hk0⟩
  exact own_stk (h.row.move (set_type h.b0 (by decide) _ _)) (h.ths.move (set_type h.b0 (by decide) _ _))
theorem refused {xs : List S23} {w W : World} {x : S23} {n : Nat} (hx : xs[n]? = some x) (hn : ¬ okU x) (hb : Below w.heap.size w W) : RetLoad xs w (.returned (.tuple #[.agg #[.slice none 0 0], .bool false])) W :=
  ⟨_, false, rfl, (fun e => by cases e), fun _ => ⟨fun h => hn (h x (List.mem_of_getElem? hx)), rfl⟩, hb⟩
theorem take_more {xs : List S23} {n : Nat} {x : S23} (hx : xs[n]? = some x) : xs.take (n + 1) = xs.take n ++ [x] := by
  rw [List.take_add_one, hx]; rfl
theorem take_ok {xs : List S23} {n : Nat} {x : S23} (hx : xs[n]? = some x) (h : ∀ y ∈ xs.take n, okU y) (ho : okU x) : ∀ y ∈ xs.take (n + 1), okU y := by
  intro y hy
  rw [take_more hx] at hy
  rcases List.mem_append.1 hy with hy | hy
  · exact h y hy
  · rw [List.mem_singleton.1 hy]; exact ho
end Go.Proofs.YthkihkkmoknbjaaDoor.Undo
/- The walk of undo.Load. Conditions: texts of at most 2^40 bytes each, at most 2^40 things; Go's two tables of utf8 as they are laid. -/
namespace Go.Proofs.YthkihkkmoknbjaaDoor.Undo
open Go.RowKit Go.Proofs.YthkihkkmoknbjaaDoorW.PrintWords Go.Proofs.YthkihkkmoknbjaaDoorW.PrintLast Go.Proofs.YthkihkkmoknbjaaDoorW.PrintMore Go.Proofs.YthkihkkmoknbjaaDoor.Rope Go.Proofs.YthkihkkmoknbjaaDoor.PUndoFinds
set_option linter.unusedVariables false
set_option linter.unusedSimpArgs false
def cnt : Value → Nat
  | .int _ z => z.toNat
  | _ => 0
theorem gen2 {φ P : World → Prop} {w : World} (h : P w) (k : ∀ W, P W → φ W) : φ w := k w h
theorem at_U {w : World} {A : Option Addr} {n : Nat} {xs : List S23} (h : Kd.C k23 w A n xs) {j : Nat} {x : S23} (hx : xs[j]? = some x) (hj : j < n) :
    ∃ ad, A = some ad ∧ w.cell? (ad.add (j * 5)) = some (.int .i64 x.f0) ∧ w.cell? ⟨(ad.add (j * 5)).block, (ad.add (j * 5)).off + 1, none⟩ = some (.int .i64 x.f1) ∧ w.cell? ⟨(ad.add (j * 5)).block, (ad.add (j * 5)).off + 2, none⟩ = some (.int .i64 x.f2) ∧ w.cell? ⟨(ad.add (j * 5)).block, (ad.add (j * 5)).off + 3, none⟩ = some (.int .i64 x.f3) ∧ w.cell? ⟨(ad.add (j * 5)).block, (ad.add (j * 5)).off + 4, none⟩ = some (.string x.f4) := by
  have k := at_T23 h (j : Int) (by omega) (by omega)
  have e : rd_T23 xs (j : Int) = x := by unfold rd_T23; rw [Int.toNat_natCast, List.getD_eq_getElem?_getD, hx]; rfl
  rw [e, Int.toNat_natCast] at k
  exact k
abbrev ldCells (x : S23) : Array Value := #[.int .i64 x.f0, .int .i64 x.f1, .int .i64 x.f2, .int .i64 x.f3, .string x.f4]
set_option maxRecDepth 1000000 in
set_option maxHeartbeats 4000000 in
theorem load_calls (A : Option Addr) (c : Nat) (xs : List S23) (w : World) (hT : Tabs w) (hr : Kd.C k23 w A xs.length xs) (hz : ∀ x ∈ xs, x.f4.size ≤ 1099511627776) (hl : xs.length ≤ 1099511627776) :
    Calls Tryd.prog 14 #[.slice A xs.length c] w (RetLoad xs w) := by
  have HT := Lib.hid hT
  have HRA := Lib.hid hr
  have HZ := Lib.hid hz
  clear hT hr hz
  go_enter Tryd.func14, Tryd.ntmps14
  go_wp2_with fail
  have HS0 := Lib.hid (show LdS w w.heap.size (w.heap.size + 1) (.slice none 0 0) [] [] ((w.alloc (.cells #[.slice none 0 0] 38)).alloc (.cells #[.slice none 0 0] 38)) from
    ⟨blk_alloc (blk_new w _) _, by have := blk_new (w.alloc (.cells #[.slice none 0 0] 38)) (.cells #[.slice none 0 0] 38); simpa using this, ⟨rfl, .inl ⟨rfl, rfl⟩⟩, ⟨rfl, fun j x t h => by simp at h⟩, below_alloc (below_alloc (Below.refl _ _) _) _⟩)
  go_loopw [11] (fun u wr => ∃ (n : Nat) (v : Value) (ys : List (TypeId × Value)), u = .int .i64 (n : Int) ∧ n ≤ xs.length ∧ Hid (∀ x ∈ xs.take n, okU x) ∧ Hid (LdS w w.heap.size (w.heap.size + 1) v ys ((xs.take n).map thOf) wr)) (fun u _ => xs.length - cnt u)
  case atStart => exact ⟨0, _, _, rfl, by omega, Lib.hid (fun x hx => by simp at hx), HS0⟩
  case round =>
    clear HS0
    obtain ⟨n, v, ys, rfl, hn, HOK, HST⟩ := hrel
    by_cases hlt : n < xs.length
    · have d1 : decide ((n : Int) < (xs.length : Int)) = true := by simp; omega
      obtain ⟨x, hx⟩ : ∃ x, xs[n]? = some x := ⟨_, List.getElem?_eq_getElem hlt⟩
      obtain ⟨ad, ea, hx0, hx1, hx2, hx3, hx4⟩ := at_U HRA.out hx hlt
      subst ea
      have hB := HST.out.below
      replace hx0 := pw_cell_below hB hx0
      replace hx1 := pw_cell_below hB hx1
      replace hx2 := pw_cell_below hB hx2
      replace hx3 := pw_cell_below hB hx3
      replace hx4 := pw_cell_below hB hx4
      have HX := Lib.hid hx
      have hzx := HZ.out x (List.mem_of_getElem? hx)
      have hyl : ys.length = n := by have := HST.out.ths.1; simp at this; omega
      have HYL := Lib.hid hyl
      clear hB hx hyl
      have b1 : (0 : Int) ≤ (n : Int) := by omega
      have b2 : (n : Int) < (xs.length : Int) := by omega
      go_upto_region 5 with (first | ((with_reducible refine gate_dst (N := 6) rfl ?_); refine box_event ?hg (N := 6) ?hd (cs := #[.int .i64 0, .int .i64 0, .int .i64 0, .int .i64 0, .string ByteArray.empty]) (t := 23) ?hr ?_; (case hd => rfl); (case hg => rfl); (case hr => first | (go_simp; done) | (go_simp; rfl)); intro gA hgA wA hboxA hbA; have GA := Lib.hid hgA; have BA := Lib.hid hbA; have XA := Lib.hid hboxA; have y0 := (blk_cell hboxA 0).trans rfl; have y1 := (blk_cell hboxA 1).trans rfl; have y2 := (blk_cell hboxA 2).trans rfl; have y3 := (blk_cell hboxA 3).trans rfl; have y4 := (blk_cell hboxA 4).trans rfl; have z0 := blk_frozen hboxA 0; have z1 := blk_frozen hboxA 1; have z2 := blk_frozen hboxA 2; have z3 := blk_frozen hboxA 3; have z4 := blk_frozen hboxA 4; clear hgA hboxA hbA))
      refine gen2 (φ := fun W => Code.wp _ _ _ _ W) (P := fun W => LdS w w.heap.size (w.heap.size + 1) v ys ((xs.take n).map thOf) W ∧ W.heap[gA]? = some (.cells (ldCells x) 23 (0, 0))) ⟨HST.out.next (below_set (below_set (below_set (below_set (below_set BA.out (by rw [GA.out]; exact Nat.le_refl _)) (by rw [GA.out]; exact Nat.le_refl _)) (by rw [GA.out]; exact Nat.le_refl _)) (by rw [GA.out]; exact Nat.le_refl _)) (by rw [GA.out]; exact Nat.le_refl _)), by simpa using blk_set (blk_set (blk_set (blk_set (blk_set XA.out 0 (.int .i64 x.f0)) 1 (.int .i64 x.f1)) 2 (.int .i64 x.f2)) 3 (.int .i64 x.f3)) 4 (.string x.f4)⟩ ?_
      rintro W ⟨hstW, hbxW⟩
      clear hx0 hx1 hx2 hx3 hx4 y0 y1 y2 y3 y4 z0 z1 z2 z3 z4 HST XA BA GA
      have a4 : W.cell? ⟨gA, 4, none⟩ = some (.string x.f4) := blk_cell hbxW 4
      have SW := Lib.hid hstW
      have BX := Lib.hid hbxW
      clear hstW hbxW
      by_cases hv : Lib.validD x.f4.data.toList = true
      · have HV := Lib.hid hv
        clear hv
        go_wp2_with fail
        (go_at_call 26; refine (new_rp x.f4 _ hzx (HT.out.below SW.out.below) HV.out).mono ?_; rintro e w1 ⟨p, rfl, hr, hb⟩)
        have S1 := Lib.hid (SW.out.next hb)
        have hbx1 : w1.heap[gA]? = some (.cells (ldCells x) 23 (0, 0)) := blk_below BX.out hb
        have RP := Lib.hid hr
        clear SW BX a4 hr hb
        have a0 : w1.cell? ⟨gA, 0, none⟩ = some (.int .i64 x.f0) := blk_cell hbx1 0
        have a1 : w1.cell? ⟨gA, 1, none⟩ = some (.int .i64 x.f1) := blk_cell hbx1 1
        have a2 : w1.cell? ⟨gA, 2, none⟩ = some (.int .i64 x.f2) := blk_cell hbx1 2
        have a3 : w1.cell? ⟨gA, 3, none⟩ = some (.int .i64 x.f3) := blk_cell hbx1 3
        have c0 : w1.cell? ⟨w.heap.size, 0, none⟩ = some (.slice none 0 0) := blk_cell S1.out.b0 0
        have c1 : w1.cell? ⟨w.heap.size + 1, 0, none⟩ = some v := blk_cell S1.out.b1 0
        have f0 := blk_frozen S1.out.b0 0
        clear hbx1
        by_cases hk1 : x.f0 = 1
        · have d2 : (x.f0 == 1) = true := by simp [hk1]
          have d3 : (x.f0 == 2) = false := by simp; omega
          have HK := Lib.hid hk1
          clear hk1
          cases p with
          | none =>
            have h0 := Lib.hid ((rp_nil RP.out).1 rfl)
            have OKX : Hid (okU x) := Lib.hid ⟨HV.out, .inl ⟨HK.out, h0.out⟩⟩
            go_wp2_with (first | ((with_reducible refine gate_builtin (b := .append) rfl ?_); refine print_append_of (w0 := w) encI w.heap.size rfl _ _ 36 20 .nilIface 16 rfl Tryd.underlying36 info_any rfl (by decide) v ys (27, .agg #[.int .i64 x.f1, .int .i64 x.f2, .int .i64 x.f3]) rfl rfl rfl ?h1 ?h2 ?h3 ?h4 ?_; (case h1 => exact S1.out.row); (case h2 => exact S1.out.below); (case h3 => exact S1.out.below.size); (case h4 => have := HYL.out; omega); intro v3 w3 ho3 hb3 hg3 hat3; obtain ⟨A3, c3, e3⟩ := own_slice1 ho3; subst e3; have HO3 := Lib.hid ho3; have HB3 := Lib.hid hb3; have HG3 := Lib.hid hg3; have hk3 : w3.heap[w.heap.size + 1]? = _ := (S1.out.row.grown hg3 (t := 38) (by decide) _ _ S1.out.b1).trans S1.out.b1; have q0 : w3.cell? ⟨w.heap.size + 1, 0, none⟩ = some v := blk_cell hk3 0; have q1 := blk_frozen hk3 0; clear ho3 hb3 hg3 hat3 hk3))
            go_roundw
            case rel =>
              have M := S1.out.more (t := thOf x) (by unfold thOf; rw [if_pos HK.out]; rfl) HO3.out HG3.out HB3.out (by omega) (by omega)
              exact ⟨n + 1, _, _, by go_num, by omega, Lib.hid (take_ok HX.out HOK.out OKX.out), Lib.hid (by rw [take_more HX.out, List.map_append]; exact M)⟩
            case measure =>
              simp only [cnt]
              omega
          | some p =>
            have NO : Hid (¬ okU x) := Lib.hid (fun h => by
              rcases h.2 with h | h
              · have := (rp_nil RP.out).2 h.2; cases this
              · have := HK.out; omega)
            go_wp2
            refine bodyPost_ret (results_ct rfl _ _ w.heap.size 38 #[.slice none 0 0] (0, 0) _ rfl (blk_put S1.out.b0 0 _ rfl) Tryd.underlying38 rfl (by kernel_rfl)) rfl ?_
            exact refused HX.out NO.out (below_set S1.out.below (Nat.le_refl _))
        · have d2 : (x.f0 == 1) = false := by simp; omega
          have HK := Lib.hid hk1
          clear hk1
          by_cases hk2 : x.f0 = 2
          · have d3 : (x.f0 == 2) = true := by simp [hk2]
            have OKX : Hid (okU x) := Lib.hid ⟨HV.out, .inr hk2⟩
            clear hk2
            go_wp2_with (first | ((with_reducible refine gate_builtin (b := .append) rfl ?_); refine print_append_of (w0 := w) encI w.heap.size rfl _ _ 36 20 .nilIface 16 rfl Tryd.underlying36 info_any rfl (by decide) v ys (60, .agg #[.int .i64 x.f1, .int .i64 x.f2, .int .i64 x.f3, .pointer p]) rfl rfl rfl ?h1 ?h2 ?h3 ?h4 ?_; (case h1 => exact S1.out.row); (case h2 => exact S1.out.below); (case h3 => exact S1.out.below.size); (case h4 => have := HYL.out; omega); intro v3 w3 ho3 hb3 hg3 hat3; obtain ⟨A3, c3, e3⟩ := own_slice1 ho3; subst e3; have HO3 := Lib.hid ho3; have HB3 := Lib.hid hb3; have HG3 := Lib.hid hg3; have hk3 : w3.heap[w.heap.size + 1]? = _ := (S1.out.row.grown hg3 (t := 38) (by decide) _ _ S1.out.b1).trans S1.out.b1; have q0 : w3.cell? ⟨w.heap.size + 1, 0, none⟩ = some v := blk_cell hk3 0; have q1 := blk_frozen hk3 0; clear ho3 hb3 hg3 hat3 hk3))
            go_roundw
            case rel =>
              have M := S1.out.more (t := thOf x) (by unfold thOf; rw [if_neg HK.out]; exact ⟨p, RP.out, rfl⟩) HO3.out HG3.out HB3.out (by omega) (by omega)
              exact ⟨n + 1, _, _, by go_num, by omega, Lib.hid (take_ok HX.out HOK.out OKX.out), Lib.hid (by rw [take_more HX.out, List.map_append]; exact M)⟩
            case measure =>
              simp only [cnt]
              omega
          · have d3 : (x.f0 == 2) = false := by simp; omega
            have NO : Hid (¬ okU x) := Lib.hid (fun h => by rcases h.2 with h | h <;> have := HK.out <;> omega)
            clear hk2
            go_wp2
            refine bodyPost_ret (results_ct rfl _ _ w.heap.size 38 #[.slice none 0 0] (0, 0) _ rfl (blk_put S1.out.b0 0 _ rfl) Tryd.underlying38 rfl (by kernel_rfl)) rfl ?_
            exact refused HX.out NO.out (below_set S1.out.below (Nat.le_refl _))
      · have HV := Lib.hid hv
        have hv2 := Lib.hid (Bool.eq_false_iff.2 hv)
        clear hv
        go_wp2_with fail
        (go_at_call 26; refine (new_wrong x.f4 _ hzx (HT.out.below SW.out.below) hv2.out).mono ?_; rintro e w1 ⟨v1, rfl, hr, hb⟩)
        have S1 := Lib.hid (SW.out.next hb)
        have c0 : w1.cell? ⟨w.heap.size, 0, none⟩ = some (.slice none 0 0) := blk_cell S1.out.b0 0
        have f0 := blk_frozen S1.out.b0 0
        have NO : Hid (¬ okU x) := Lib.hid (fun h => HV.out h.1)
        clear SW BX a4 hr hb
        go_wp2
        refine bodyPost_ret (results_ct rfl _ _ w.heap.size 38 #[.slice none 0 0] (0, 0) _ rfl (blk_put S1.out.b0 0 _ rfl) Tryd.underlying38 rfl (by kernel_rfl)) rfl ?_
        exact refused HX.out NO.out (below_set S1.out.below (Nat.le_refl _))
    · have d1 : decide ((n : Int) < (xs.length : Int)) = false := by simp; omega
      obtain ⟨A3, c3, e3⟩ := own_slice0 HST.out.row
      subst e3
      have c0 : wr.cell? ⟨w.heap.size, 0, none⟩ = some (.slice none 0 0) := blk_cell HST.out.b0 0
      have c1 : wr.cell? ⟨w.heap.size + 1, 0, none⟩ = some (.slice A3 ys.length c3) := blk_cell HST.out.b1 0
      have f0 := blk_frozen HST.out.b0 0
      have HN := Lib.hid (show xs.take n = xs from List.take_of_length_le (by omega))
      go_wp2
      refine bodyPost_ret (results_ct rfl _ _ w.heap.size 38 #[.slice A3 ys.length c3] (0, 0) _ rfl (blk_put HST.out.b0 0 _ rfl) Tryd.underlying38 rfl (by kernel_rfl)) rfl ?_
      exact loaded (by have := HST.out; rw [HN.out] at this; exact this) (by have := HOK.out; rw [HN.out] at this; exact this) (Nat.le_refl _) (by omega)
end Go.Proofs.YthkihkkmoknbjaaDoor.Undo
/- The walk of Stack.Plain: a stack as plain values. Conditions: at most 2^40 things. -/
namespace Go.Proofs.YthkihkkmoknbjaaDoor.Undo
open Go.RowKit Go.Proofs.YthkihkkmoknbjaaDoorW.PrintWords Go.Proofs.YthkihkkmoknbjaaDoorW.PrintLast Go.Proofs.YthkihkkmoknbjaaDoorW.PrintMore Go.Proofs.YthkihkkmoknbjaaDoor.Rope Go.Proofs.YthkihkkmoknbjaaDoor.PUndoFinds
set_option linter.unusedVariables false
set_option linter.unusedSimpArgs false
/-- A thing as plain values. -/
def plainTh : Th → S23
  | .put d m l => ⟨1, d, m, l, ⟨#[]⟩⟩
  | .took d m l s => ⟨2, d, m, l, s⟩
theorem text_rp {w : World} {p : Option Addr} {s : ByteArray} (h : Rp w p s) : Calls Tryd.prog 29 #[.pointer p] w fun e w' => e = .returned (.string s) ∧ Below w.heap.size w w' := by
  obtain ⟨t, cs, hi, hs⟩ := h
  exact text_is hi s hs
theorem at_I {w : World} {A : Option Addr} {n : Nat} {xs : List (TypeId × Value)} (h : Kd.C (Kd.scalar encI (fun _ => rfl)) w A n xs) {j : Nat} {x : TypeId × Value} (hx : xs[j]? = some x) (hj : j < n) :
    ∃ ad, A = some ad ∧ w.cell? (ad.add j) = some (encI x) := by
  obtain ⟨ad, c, e, _, hK, hc⟩ := Kd.C_get h x (j : Int) (by omega) (by omega)
  have e2 : xs.getD (j : Int).toNat x = x := by rw [Int.toNat_natCast, List.getD_eq_getElem?_getD, hx]; rfl
  rw [e2] at hK
  have hK' : c = [encI x] := hK
  subst hK'
  have := hc 0 _ rfl
  rw [Int.toNat_natCast] at this
  exact ⟨ad, e, by simpa [Kd.scalar] using this⟩
/-- What Plain leaves. -/
def RetPlain (us : List S23) (w : World) (e : Ending) (w' : World) : Prop := ∃ v, e = .returned v ∧ Kd.R k23 23 w' w.heap.size (fun _ => True) v us ∧ Below w.heap.size w w'
set_option maxRecDepth 1000000 in
set_option maxHeartbeats 4000000 in
theorem plain_calls (v0 : Value) (ts : List Th) (w : World) (h : Stk w v0 ts) (hl : ts.length ≤ 1099511627776) :
    Calls Tryd.prog 15 #[v0] w (RetPlain (ts.map plainTh) w) := by
  obtain ⟨A, c, xs, rfl, hc, hr, ht, _⟩ := h
  have HR := Lib.hid hr
  have HT := Lib.hid ht
  have HL := Lib.hid (show ts.length = xs.length from ht.1)
  have hl2 : xs.length ≤ 1099511627776 := by have := ht.1; omega
  clear hr ht hl
  go_enter Tryd.func15, Tryd.ntmps15
  go_wp2_with fail
  have HS0 := Lib.hid (show Below w.heap.size w (w.alloc (.cells #[.slice A xs.length c] 38)) from below_alloc (Below.refl _ _) _)
  go_loopw [3, 14] (fun v u wr => ∃ (n : Nat), u = .int .i64 (n : Int) ∧ n ≤ xs.length ∧ Hid (Kd.R k23 23 wr w.heap.size (fun _ => True) v ((ts.take n).map plainTh)) ∧ Hid (Below w.heap.size w wr)) (fun _ u _ => xs.length - cnt u)
  case atStart => exact ⟨0, rfl, by omega, Lib.hid (Kd.R_nil _ _ _ _ _), HS0⟩
  case round =>
    clear HS0
    obtain ⟨n, rfl, hn, HV, HB⟩ := hrel
    by_cases hlt : n < xs.length
    · have d1 : decide ((n : Int) < (xs.length : Int)) = true := by simp; omega
      obtain ⟨x, hx⟩ : ∃ x, xs[n]? = some x := ⟨_, List.getElem?_eq_getElem hlt⟩
      obtain ⟨t, ht⟩ : ∃ t, ts[n]? = some t := ⟨_, List.getElem?_eq_getElem (by rw [HL.out]; exact hlt)⟩
      obtain ⟨ad, ea, hx0⟩ := at_I HR.out hx hlt
      subst ea
      replace hx0 := pw_cell_below HB.out hx0
      have TH := Lib.hid ((HT.out.2 n x t hx ht).below HB.out)
      have HTT := Lib.hid ht
      have HVL := Lib.hid (show ((ts.take n).map plainTh).length = n by have := HL.out; simp; omega)
      clear hx ht
      generalize encI x = vx at hx0 TH
      have b1 : (0 : Int) ≤ (n : Int) := by omega
      have b2 : (n : Int) < (xs.length : Int) := by omega
      go_wp2_with fail
      (go_at_call 8; refine (mark_calls t vx _ TH.out).mono ?_; rintro e w1 ⟨rfl, hb1⟩)
      have B1 := Lib.hid hb1
      clear hb1
      go_wp2_with fail
      (go_at_call 30; refine (doc_calls t vx _ (TH.out.below B1.out)).mono ?_; rintro e w2 ⟨rfl, hb2⟩)
      have B2 := Lib.hid (below_step B1.out hb2)
      clear hb2
      go_wp2_with fail
      (go_at_call 12; refine (label_calls t vx _ (TH.out.below B2.out)).mono ?_; rintro e w3 ⟨rfl, hb3⟩)
      have B3 := Lib.hid (below_step B2.out hb3)
      clear hb3 hx0 B1 B2
      go_upto_region 7 with (first | ((with_reducible refine gate_dst (N := 8) rfl ?_); refine box_event ?hg (N := 8) ?hd (cs := #[.int .i64 0, .int .i64 0, .int .i64 0, .int .i64 0, .string ByteArray.empty]) (t := 23) ?hr ?_; (case hd => rfl); (case hg => rfl); (case hr => first | (go_simp; done) | (go_simp; rfl)); intro gA hgA wA hboxA hbA; have GA := Lib.hid (show wr.heap.size ≤ gA by rw [hgA]; exact B3.out.size); have BA := Lib.hid (below_step B3.out hbA); have XA := Lib.hid hboxA; have y0 := (blk_cell hboxA 0).trans rfl; have y1 := (blk_cell hboxA 1).trans rfl; have y2 := (blk_cell hboxA 2).trans rfl; have y3 := (blk_cell hboxA 3).trans rfl; have y4 := (blk_cell hboxA 4).trans rfl; have z0 := blk_frozen hboxA 0; have z1 := blk_frozen hboxA 1; have z2 := blk_frozen hboxA 2; have z3 := blk_frozen hboxA 3; have z4 := blk_frozen hboxA 4; clear hgA hboxA hbA))
      refine gen2 (φ := fun W => Code.wp _ _ _ _ W) (P := fun W => Below wr.heap.size wr W ∧ W.heap[gA]? = some (.cells (ldCells ⟨1, t.doc, t.mark, t.label, ⟨#[]⟩⟩) 23 (0, 0))) ⟨below_set (below_set (below_set (below_set (below_set BA.out GA.out) GA.out) GA.out) GA.out) GA.out, by simpa using blk_set (blk_set (blk_set (blk_set (blk_set XA.out 0 (.int .i64 1)) 1 (.int .i64 t.doc)) 2 (.int .i64 t.mark)) 3 (.int .i64 t.label)) 4 (.string ⟨#[]⟩)⟩ ?_
      rintro W ⟨hbW, hbxW⟩
      clear y0 y1 y2 y3 y4 z0 z1 z2 z3 z4 B3 XA BA
      have BW := Lib.hid hbW
      have XW := Lib.hid hbxW
      clear hbW hbxW
      cases t with
      | put d m l =>
        have e : vx = _ := TH.out
        subst e
        go_upto_region 8 with (first | ((with_reducible refine gate_dst (N := 9) rfl ?_); refine box_event ?hg (N := 9) ?hd (cs := #[.int .i64 0, .int .i64 0, .int .i64 0, .pointer none]) (t := 60) ?hr ?_; (case hd => rfl); (case hg => rfl); (case hr => first | (go_simp; done) | (go_simp; rfl)); intro gT hgT wT hboxT hbT; have GT := Lib.hid (show wr.heap.size ≤ gT by rw [hgT]; exact BW.out.size); have BT := Lib.hid (below_step BW.out hbT); have XT := Lib.hid hboxT; have XW2 := Lib.hid (blk_below XW.out hbT); have NE := Lib.hid (show gA ≠ gT by rw [hgT]; have := blk_lt XW.out; omega); have y0 := (blk_cell hboxT 0).trans rfl; have y1 := (blk_cell hboxT 1).trans rfl; have y2 := (blk_cell hboxT 2).trans rfl; have y3 := (blk_cell hboxT 3).trans rfl; have z0 := blk_frozen hboxT 0; have z1 := blk_frozen hboxT 1; have z2 := blk_frozen hboxT 2; have z3 := blk_frozen hboxT 3; clear hgT hboxT hbT))
        refine gen2 (φ := fun W => Code.wp _ _ _ _ W) (P := fun W => Below wr.heap.size wr W ∧ W.heap[gA]? = some (.cells (ldCells ⟨1, d, m, l, ⟨#[]⟩⟩) 23 (0, 0))) ⟨below_set (below_set (below_set (below_set BT.out GT.out) GT.out) GT.out) GT.out, blk_far (blk_far (blk_far (blk_far XW2.out NE.out _) NE.out _) NE.out _) NE.out _⟩ ?_
        rintro V ⟨hbV, hbxV⟩
        clear y0 y1 y2 y3 z0 z1 z2 z3 XT BT GT XW BW XW2 NE
        have BV := Lib.hid hbV
        have a0 : V.cell? ⟨gA, 0, none⟩ = some (.int .i64 1) := blk_cell hbxV 0
        have a1 : V.cell? ⟨gA, 1, none⟩ = some (.int .i64 d) := blk_cell hbxV 1
        have a2 : V.cell? ⟨gA, 2, none⟩ = some (.int .i64 m) := blk_cell hbxV 2
        have a3 : V.cell? ⟨gA, 3, none⟩ = some (.int .i64 l) := blk_cell hbxV 3
        have a4 : V.cell? ⟨gA, 4, none⟩ = some (.string ⟨#[]⟩) := blk_cell hbxV 4
        clear hbV hbxV
        go_wp2_with (first | ((with_reducible refine gate_builtin (b := .append) rfl ?_); refine Kd.R_append k23 (w0 := w) w.heap.size rfl _ _ 30 23 (.agg #[(.int .i64 0), (.int .i64 0), (.int .i64 0), (.int .i64 0), (.string ⟨#[]⟩)]) 48 rfl Tryd.underlying30 info23 rfl (by decide) (by decide) _ ((ts.take n).map plainTh) (⟨1, d, m, l, ⟨#[]⟩⟩ : S23) [.int .i64 1, .int .i64 d, .int .i64 m, .int .i64 l, .string ⟨#[]⟩] (fun _ => True) (fun _ => False) rfl rfl ?aP (fun _ hk => hk.elim) (fun _ _ => trivial) ?aO ?aB ?aS ?aL ?_; (case aP => exact k23_mkM _ _ _ (⟨1, d, m, l, ⟨#[]⟩⟩ : S23)); (case aO => exact Kd.R_below HV.out BV.out); (case aB => exact below_step HB.out BV.out); (case aS => exact (below_step HB.out BV.out).size); (case aL => have := HVL.out; omega); intro v3 w3 ho3 hb3 hg3 hat3; have HO3 := Lib.hid ho3; have HB3 := Lib.hid hb3; clear ho3 hb3 hg3 hat3))
        go_roundw
        case rel =>
          refine ⟨n + 1, by go_num, by omega, Lib.hid ?_, HB3⟩
          have e : ts.take (n + 1) = ts.take n ++ [.put d m l] := by rw [List.take_add_one, HTT.out]; rfl
          rw [e, List.map_append]
          exact HO3.out
        case measure =>
          simp only [cnt]
          omega
      | took d m l s =>
        obtain ⟨p, hp, e⟩ := TH.out
        subst e
        have RP := Lib.hid hp
        clear hp
        go_upto_region 8 with (first | ((with_reducible refine gate_dst (N := 9) rfl ?_); refine box_event ?hg (N := 9) ?hd (cs := #[.int .i64 0, .int .i64 0, .int .i64 0, .pointer none]) (t := 60) ?hr ?_; (case hd => rfl); (case hg => rfl); (case hr => first | (go_simp; done) | (go_simp; rfl)); intro gT hgT wT hboxT hbT; have GT := Lib.hid (show wr.heap.size ≤ gT by rw [hgT]; exact BW.out.size); have BT := Lib.hid (below_step BW.out hbT); have XT := Lib.hid hboxT; have XW2 := Lib.hid (blk_below XW.out hbT); have NE := Lib.hid (show gA ≠ gT by rw [hgT]; have := blk_lt XW.out; omega); have y0 := (blk_cell hboxT 0).trans rfl; have y1 := (blk_cell hboxT 1).trans rfl; have y2 := (blk_cell hboxT 2).trans rfl; have y3 := (blk_cell hboxT 3).trans rfl; have z0 := blk_frozen hboxT 0; have z1 := blk_frozen hboxT 1; have z2 := blk_frozen hboxT 2; have z3 := blk_frozen hboxT 3; clear hgT hboxT hbT))
        refine gen2 (φ := fun W => Code.wp _ _ _ _ W) (P := fun W => Below wr.heap.size wr W ∧ W.heap[gA]? = some (.cells (ldCells ⟨1, d, m, l, ⟨#[]⟩⟩) 23 (0, 0)) ∧ W.cell? ⟨gT, 3, none⟩ = some (.pointer p)) ⟨below_set (below_set (below_set (below_set BT.out GT.out) GT.out) GT.out) GT.out, blk_far (blk_far (blk_far (blk_far XW2.out NE.out _) NE.out _) NE.out _) NE.out _, (blk_cell (blk_set (blk_set (blk_set (blk_set XT.out 0 (.int .i64 d)) 1 (.int .i64 m)) 2 (.int .i64 l)) 3 (.pointer p)) 3).trans rfl⟩ ?_
        rintro V ⟨hbV, hbxV, hpV⟩
        clear y0 y1 y2 y3 z0 z1 z2 z3 XT BT GT XW BW XW2 NE
        have BV := Lib.hid hbV
        have XV := Lib.hid hbxV
        clear hbV hbxV
        go_wp2_with fail
        (go_at_call 29; refine (text_rp (RP.out.below BV.out)).mono ?_; rintro e w5 ⟨rfl, hb5⟩)
        have B5 := Lib.hid (below_step BV.out hb5)
        have hbx5 := blk_below XV.out hb5
        have X5 := Lib.hid hbx5
        have y0 := (blk_cell hbx5 0).trans rfl
        have y4 := (blk_cell hbx5 4).trans rfl
        have z0 := blk_frozen hbx5 0
        have z4 := blk_frozen hbx5 4
        clear hb5 hbx5 hpV
        go_upto_region 10 with (fail)
        refine gen2 (φ := fun W => Code.wp _ _ _ _ W) (P := fun W => Below wr.heap.size wr W ∧ W.heap[gA]? = some (.cells (ldCells ⟨2, d, m, l, s⟩) 23 (0, 0))) ⟨below_set (below_set B5.out GA.out) GA.out, by simpa using blk_set (blk_set X5.out 0 (.int .i64 2)) 4 (.string s)⟩ ?_
        rintro U ⟨hbU, hbxU⟩
        clear y0 y4 z0 z4 XV BV X5 B5
        have BU := Lib.hid hbU
        have a0 : U.cell? ⟨gA, 0, none⟩ = some (.int .i64 2) := blk_cell hbxU 0
        have a1 : U.cell? ⟨gA, 1, none⟩ = some (.int .i64 d) := blk_cell hbxU 1
        have a2 : U.cell? ⟨gA, 2, none⟩ = some (.int .i64 m) := blk_cell hbxU 2
        have a3 : U.cell? ⟨gA, 3, none⟩ = some (.int .i64 l) := blk_cell hbxU 3
        have a4 : U.cell? ⟨gA, 4, none⟩ = some (.string s) := blk_cell hbxU 4
        clear hbU hbxU
        go_wp2_with (first | ((with_reducible refine gate_builtin (b := .append) rfl ?_); refine Kd.R_append k23 (w0 := w) w.heap.size rfl _ _ 30 23 (.agg #[(.int .i64 0), (.int .i64 0), (.int .i64 0), (.int .i64 0), (.string ⟨#[]⟩)]) 48 rfl Tryd.underlying30 info23 rfl (by decide) (by decide) _ ((ts.take n).map plainTh) (⟨2, d, m, l, s⟩ : S23) [.int .i64 2, .int .i64 d, .int .i64 m, .int .i64 l, .string s] (fun _ => True) (fun _ => False) rfl rfl ?aP (fun _ hk => hk.elim) (fun _ _ => trivial) ?aO ?aB ?aS ?aL ?_; (case aP => exact k23_mkM _ _ _ (⟨2, d, m, l, s⟩ : S23)); (case aO => exact Kd.R_below HV.out BU.out); (case aB => exact below_step HB.out BU.out); (case aS => exact (below_step HB.out BU.out).size); (case aL => have := HVL.out; omega); intro v3 w3 ho3 hb3 hg3 hat3; have HO3 := Lib.hid ho3; have HB3 := Lib.hid hb3; clear ho3 hb3 hg3 hat3))
        go_roundw
        case rel =>
          refine ⟨n + 1, by go_num, by omega, Lib.hid ?_, HB3⟩
          have e : ts.take (n + 1) = ts.take n ++ [.took d m l s] := by rw [List.take_add_one, HTT.out]; rfl
          rw [e, List.map_append]
          exact HO3.out
        case measure =>
          simp only [cnt]
          omega
    · have d1 : decide ((n : Int) < (xs.length : Int)) = false := by simp; omega
      have HN := Lib.hid (show ts.take n = ts from List.take_of_length_le (by have := HL.out; omega))
      go_wp2
      go_ret
      exact ⟨_, rfl, by have := HV.out; rw [HN.out] at this; exact this, HB.out⟩
end Go.Proofs.YthkihkkmoknbjaaDoor.Undo
/- Plain laws: what the document's small, Right and Same answer of plain values. Conditions: the sizes that every row has. -/
namespace Go.Proofs.YthkihkkmoknbjaaDoor.Undo
open Go.RowKit Go.Proofs.YthkihkkmoknbjaaDoorPl Go.Proofs.YthkihkkmoknbjaaDoorW.PrintWords Go.Proofs.YthkihkkmoknbjaaDoorW.PrintLast Go.Proofs.YthkihkkmoknbjaaDoorW.PrintMore Go.Proofs.YthkihkkmoknbjaaDoor.Rope Go.Proofs.YthkihkkmoknbjaaDoor.PUndoFinds
set_option linter.unusedVariables false
set_option linter.unusedSimpArgs false
abbrev U := S23
theorem rd_at {xs : List U} {j : Nat} {x : U} (hx : xs[j]? = some x) : rd_T23 xs (j : Int) = x := by
  unfold rd_T23; rw [Int.toNat_natCast, List.getD_eq_getElem?_getD, hx]; rfl
theorem small_l0 (xs : List U) (hn : xs.length ≤ 2932031007402) (hz : ∀ x ∈ xs, x.f4.size ≤ 140737488351232) : ∀ (d i : Nat) (n : Int), xs.length - i = d → i ≤ xs.length → 0 ≤ n → n ≤ 2000 →
    ∃ b, Ev (fun k => chancellaw07_small.l0 k xs n xs (xs.length : Int) (i : Int)) b ∧ (b = true → xs.length ≤ 60 ∧ ∀ (j : Nat) x, i ≤ j → xs[j]? = some x → x.f4.size ≤ 2000)
  | 0, i, n, hd, hi, h0, h1 => by
    refine ⟨decide ((xs.length : Int) ≤ 60), ev_next (f := fun _ => some (decide ((xs.length : Int) ≤ 60))) (fun k => by simp only [chancellaw07_small.l0]; rw [if_neg (by omega)]) (Ev.now _), fun h => ?_⟩
    have := of_decide_eq_true h
    refine ⟨by omega, fun j x hj hx => ?_⟩
    have := (List.getElem?_eq_some_iff.1 hx).1
    omega
  | d + 1, i, n, hd, hi, h0, h1 => by
    obtain ⟨x, hx⟩ : ∃ x, xs[i]? = some x := ⟨_, List.getElem?_eq_getElem (by omega)⟩
    have hzx := hz x (List.mem_of_getElem? hx)
    have W1 := Lib.hid (wrap_succ (i := i) (by omega))
    have w2 : wrap64 (n + (x.f4.size : Int)) = n + (x.f4.size : Int) := wrap_id (by omega) (by omega)
    have W2 := Lib.hid w2
    clear w2
    by_cases c : n + (x.f4.size : Int) > 2000
    · refine ⟨false, ev_next (f := fun _ => some false) (fun k => ?_) (Ev.now _), (fun h => by cases h)⟩
      simp only [chancellaw07_small.l0, rd_at hx]
      rw [if_pos (by omega), if_pos (by omega), if_pos (by omega), W2.out, if_pos c]
    · obtain ⟨b, hb, hb2⟩ := small_l0 xs hn hz d (i + 1) (n + (x.f4.size : Int)) (by omega) (by omega) (by omega) (by omega)
      refine ⟨b, ev_next (fun k => ?_) hb, fun h => ⟨(hb2 h).1, fun j y hj hy => ?_⟩⟩
      · simp only [chancellaw07_small.l0, rd_at hx]
        rw [if_pos (by omega), if_pos (by omega), if_pos (by omega), W2.out, if_neg c, W1.out]
      · rcases Nat.eq_or_lt_of_le hj with e | hj
        · subst e
          rw [hx] at hy
          injection hy with hy
          subst hy
          omega
        · exact (hb2 h).2 j y hj hy
theorem small_ev (xs : List U) (hn : xs.length ≤ 2932031007402) (hz : ∀ x ∈ xs, x.f4.size ≤ 140737488351232) :
    ∃ b, Ev (fun k => chancellaw07_small.f k xs) b ∧ (b = true → xs.length ≤ 60 ∧ ∀ x ∈ xs, x.f4.size ≤ 2000) := by
  obtain ⟨b, hb, h⟩ := small_l0 xs hn hz _ 0 0 rfl (by omega) (by omega) (by omega)
  refine ⟨b, hb, fun e => ⟨(h e).1, fun x hx => ?_⟩⟩
  obtain ⟨j, hj⟩ := List.getElem?_of_mem hx
  exact (h e).2 j x (by omega) hj
open Classical in
/-- May they be loaded? As a bool. -/
noncomputable def okB (xs : List U) : Bool := decide (∀ x ∈ xs, okU x)
theorem okB_true {xs : List U} : okB xs = true ↔ ∀ x ∈ xs, okU x := by simp [okB]
theorem okB_false {xs : List U} : okB xs = false ↔ ¬ ∀ x ∈ xs, okU x := by simp [okB]
theorem right_l0 (xs : List U) (hn : xs.length ≤ 2932031007402) (hz : ∀ x ∈ xs, x.f4.size ≤ 140737488355328) : ∀ (d i : Nat), xs.length - i = d → i ≤ xs.length →
    ∃ b, Ev (fun k => chancelref07_Right.l0 k xs (i : Int)) b ∧ (b = true ↔ ∀ (j : Nat) x, i ≤ j → xs[j]? = some x → okU x)
  | 0, i, hd, hi => by
    refine ⟨true, ev_next (f := fun _ => some true) (fun k => by simp only [chancelref07_Right.l0]; rw [if_neg (by omega)]) (Ev.now _), ⟨fun _ j x hj hx => ?_, fun _ => rfl⟩⟩
    have := (List.getElem?_eq_some_iff.1 hx).1
    omega
  | d + 1, i, hd, hi => by
    obtain ⟨x, hx⟩ : ∃ x, xs[i]? = some x := ⟨_, List.getElem?_eq_getElem (by omega)⟩
    have hR := Right_ev x.f4 (hz x (List.mem_of_getElem? hx))
    have W1 := Lib.hid (wrap_succ (i := i) (by omega))
    obtain ⟨b, hb, hb2⟩ := right_l0 xs hn hz d (i + 1) (by omega) (by omega)
    have bad : ¬ okU x → (false = true ↔ ∀ (j : Nat) x, i ≤ j → xs[j]? = some x → okU x) := fun h => ⟨(fun e => by cases e), fun h2 => absurd (h2 i x (Nat.le_refl _) hx) h⟩
    have good : okU x → (b = true ↔ ∀ (j : Nat) x, i ≤ j → xs[j]? = some x → okU x) := fun h => by
      rw [hb2]
      refine ⟨fun h2 j y hj hy => ?_, fun h2 j y hj hy => h2 j y (by omega) hy⟩
      rcases Nat.eq_or_lt_of_le hj with e | hj
      · subst e; rw [hx] at hy; injection hy with hy; subst hy; exact h
      · exact h2 j y hj hy
    by_cases hv : Lib.validD x.f4.data.toList = true
    · rw [hv] at hR
      by_cases h1 : x.f0 = 1
      · by_cases h0 : x.f4.size = 0
        · refine ⟨b, ev_next (fun k => ?_) (Ev.bind hR (g := fun k => chancelref01_Right.f k x.f4) (f := fun k t => if t = true then (if x.f4.toList = ([] : List UInt8) then chancelref07_Right.l0 k xs (wrap64 ((i : Int) + 1)) else some false) else some false) ?_), good ⟨hv, .inl ⟨h1, h0⟩⟩⟩
          · simp only [chancelref07_Right.l0, rd_at hx]
            rw [if_pos (by omega), if_pos (by omega), if_pos h1]
          · refine Ev.congr (fun k => ?_) hb
            rw [if_pos rfl, if_pos ((nil_iff _).2 h0), W1.out]
        · refine ⟨false, ev_next (fun k => ?_) (Ev.bind hR (g := fun k => chancelref01_Right.f k x.f4) (f := fun k t => if t = true then (if x.f4.toList = ([] : List UInt8) then chancelref07_Right.l0 k xs (wrap64 ((i : Int) + 1)) else some false) else some false) ?_), bad (fun h => by rcases h.2 with h | h <;> omega)⟩
          · simp only [chancelref07_Right.l0, rd_at hx]
            rw [if_pos (by omega), if_pos (by omega), if_pos h1]
          · refine ev_rfl (fun k => ?_)
            rw [if_pos rfl, if_neg (fun h => h0 ((nil_iff _).1 h))]
      · by_cases h2 : x.f0 = 2
        · refine ⟨b, ev_next (fun k => ?_) (Ev.bind hR (g := fun k => chancelref01_Right.f k x.f4) (f := fun k t => if t = true then chancelref07_Right.l0 k xs (wrap64 ((i : Int) + 1)) else some false) ?_), good ⟨hv, .inr h2⟩⟩
          · simp only [chancelref07_Right.l0, rd_at hx]
            rw [if_pos (by omega), if_pos (by omega), if_neg h1, if_pos h2]
          · refine Ev.congr (fun k => ?_) hb
            rw [if_pos rfl, W1.out]
        · refine ⟨false, ev_next (f := fun _ => some false) (fun k => ?_) (Ev.now _), bad (fun h => by rcases h.2 with h | h <;> omega)⟩
          simp only [chancelref07_Right.l0, rd_at hx]
          rw [if_pos (by omega), if_pos (by omega), if_neg h1, if_neg h2]
    · have hv' := Bool.eq_false_iff.2 hv
      rw [hv'] at hR
      refine ⟨false, ?_, bad (fun h => hv h.1)⟩
      by_cases h1 : x.f0 = 1
      · refine ev_next (fun k => ?_) (Ev.bind hR (g := fun k => chancelref01_Right.f k x.f4) (f := fun k t => if t = true then (if x.f4.toList = ([] : List UInt8) then chancelref07_Right.l0 k xs (wrap64 ((i : Int) + 1)) else some false) else some false) ?_)
        · simp only [chancelref07_Right.l0, rd_at hx]
          rw [if_pos (by omega), if_pos (by omega), if_pos h1]
        · exact ev_rfl (fun k => rfl)
      · by_cases h2 : x.f0 = 2
        · refine ev_next (fun k => ?_) (Ev.bind hR (g := fun k => chancelref01_Right.f k x.f4) (f := fun k t => if t = true then chancelref07_Right.l0 k xs (wrap64 ((i : Int) + 1)) else some false) ?_)
          · simp only [chancelref07_Right.l0, rd_at hx]
            rw [if_pos (by omega), if_pos (by omega), if_neg h1, if_pos h2]
          · exact ev_rfl (fun k => rfl)
        · refine ev_next (f := fun _ => some false) (fun k => ?_) (Ev.now _)
          simp only [chancelref07_Right.l0, rd_at hx]
          rw [if_pos (by omega), if_pos (by omega), if_neg h1, if_neg h2]
theorem refRightU_ev (xs : List U) (hn : xs.length ≤ 2932031007402) (hz : ∀ x ∈ xs, x.f4.size ≤ 140737488355328) : Ev (fun k => chancelref07_Right.f k xs) (okB xs) := by
  obtain ⟨b, hb, h⟩ := right_l0 xs hn hz _ 0 rfl (by omega)
  have e : b = okB xs := by
    rw [Bool.eq_iff_iff, h, okB_true]
    refine ⟨fun h2 x hx => ?_, fun h2 j x _ hx => h2 x (List.mem_of_getElem? hx)⟩
    obtain ⟨j, hj⟩ := List.getElem?_of_mem hx
    exact h2 j x (by omega) hj
  rw [← e]
  exact hb
theorem same_l0 (xs : List U) (hn : xs.length ≤ 2932031007402) : ∀ (d i : Nat), xs.length - i = d → i ≤ xs.length → Ev (fun k => chancelref07_Same.l0 k xs xs (i : Int)) true
  | 0, i, hd, hi => ev_next (f := fun _ => some true) (fun k => by simp only [chancelref07_Same.l0]; rw [if_neg (by omega)]) (Ev.now _)
  | d + 1, i, hd, hi => by
    have W1 := Lib.hid (wrap_succ (i := i) (by omega))
    refine ev_next (fun k => ?_) (same_l0 xs hn d (i + 1) (by omega) (by omega))
    simp only [chancelref07_Same.l0]
    rw [if_pos (by omega), if_pos (by omega), if_pos (by omega), if_neg (by simp), W1.out]
theorem same_ev (xs : List U) (hn : xs.length ≤ 2932031007402) : Ev (fun k => chancelref07_Same.f k xs xs) true :=
  Ev.congr (fun k => by unfold chancelref07_Same.f; rw [if_pos rfl]; rfl) (same_l0 xs hn _ 0 rfl (by omega))
end Go.Proofs.YthkihkkmoknbjaaDoor.Undo
/- The walk of the law UndoLoads: it answers true. Conditions: the sizes that every row has; Go's two tables of utf8 as they are laid. -/
namespace Go.Proofs.YthkihkkmoknbjaaDoor.Undo
open Go.RowKit Go.Proofs.YthkihkkmoknbjaaDoorW.PrintWords Go.Proofs.YthkihkkmoknbjaaDoorW.PrintLast Go.Proofs.YthkihkkmoknbjaaDoorW.PrintMore Go.Proofs.YthkihkkmoknbjaaDoor.Rope Go.Proofs.YthkihkkmoknbjaaDoor.PUndoFinds
set_option linter.unusedVariables false
set_option linter.unusedSimpArgs false
/-- A stack comes back, and all went well. -/
def RetS (n : Nat) (ts : List Th) (w : World) (e : Ending) (w' : World) : Prop :=
  ∃ A c, e = .returned (.tuple #[.agg #[.slice A n c], .bool true]) ∧ Stk w' (.agg #[.slice A n c]) ts ∧ Below w.heap.size w w'
theorem Stk.form {w : World} {v : Value} {ts : List Th} (h : Stk w v ts) : ∃ A c, v = .agg #[.slice A ts.length c] := by
  obtain ⟨A, c, xs, e, _, _, ht, _⟩ := h
  exact ⟨A, c, by rw [ht.1]; exact e⟩
theorem load_good (A : Option Addr) (c : Nat) (xs : List U) (w : World) (hT : Tabs w) (hr : Kd.C k23 w A xs.length xs) (hz : ∀ x ∈ xs, x.f4.size ≤ 1099511627776) (hl : xs.length ≤ 1099511627776) (hok : ∀ x ∈ xs, okU x) :
    Calls Tryd.prog 14 #[.slice A xs.length c] w (RetS xs.length (xs.map thOf) w) := by
  refine (load_calls A c xs w hT hr hz hl).mono ?_
  rintro e w' ⟨v, b, rfl, h1, h2, hb⟩
  cases b with
  | false => exact absurd hok (h2 rfl).1
  | true =>
    have hs := (h1 rfl).2
    obtain ⟨A', c', e⟩ := hs.form
    rw [List.length_map] at e
    subst e
    exact ⟨A', c', rfl, hs, hb⟩
theorem load_bad (A : Option Addr) (c : Nat) (xs : List U) (w : World) (hT : Tabs w) (hr : Kd.C k23 w A xs.length xs) (hz : ∀ x ∈ xs, x.f4.size ≤ 1099511627776) (hl : xs.length ≤ 1099511627776) (hok : ¬ ∀ x ∈ xs, okU x) :
    Calls Tryd.prog 14 #[.slice A xs.length c] w fun e w' => e = .returned (.tuple #[.agg #[.slice none 0 0], .bool false]) ∧ Below w.heap.size w w' := by
  refine (load_calls A c xs w hT hr hz hl).mono ?_
  rintro e w' ⟨v, b, rfl, h1, h2, hb⟩
  cases b with
  | true => exact absurd (h1 rfl).1 hok
  | false =>
    obtain ⟨_, rfl⟩ := h2 rfl
    exact ⟨rfl, hb⟩
theorem stk_nil (w : World) : Stk w (.agg #[.slice none 0 0]) [] := ⟨none, 0, [], rfl, Nat.le_refl _, Kd.C_nil _ _, ⟨rfl, fun j x t h => by simp at h⟩, fun _ e => by cases e⟩
/-- A row of one, just built. -/
theorem C_one {W : World} {g : Nat} {x : U} (h : W.heap[g]? = some (.cells (ldCells x) 23 (0, 0))) : Kd.C k23 W (some ⟨g, 0, none⟩) 1 [x] := by
  refine ⟨rfl, by decide, fun _ => ⟨_, rfl, fun j p hj => ?_⟩⟩
  cases j with
  | succ j => simp at hj
  | zero =>
    simp only [List.getElem?_cons_zero, Option.some.injEq] at hj
    subst hj
    refine ⟨_, rfl, k23_mk W x, fun i u hu => ?_⟩
    rw [add_plain]
    have e : (0 * k23.sz + i) = i := by omega
    rw [e, blk_cell h i]
    simpa using hu
theorem plain_of {xs : List U} (h : ∀ x ∈ xs, okU x) : (xs.map thOf).map plainTh = xs := by
  rw [List.map_map]
  conv => rhs; rw [← List.map_id xs]
  refine List.map_congr_left (fun x hx => ?_)
  obtain ⟨hv, h1⟩ := h x hx
  obtain ⟨x0, x1, x2, x3, x4⟩ := x
  show plainTh (thOf _) = _
  unfold thOf
  rcases h1 with ⟨e0, e4⟩ | e0
  · have e0' : x0 = 1 := e0
    have e4' : x4 = ⟨#[]⟩ := by
      apply ByteArray.ext
      exact Array.eq_empty_of_size_eq_zero e4
    subst e0'; subst e4'
    rfl
  · have e0' : x0 = 2 := e0
    subst e0'
    rfl
def x0 : U := ⟨2, 1, 2, 0, ⟨#[120]⟩⟩
theorem x0_ok : okU x0 := ⟨(validD_iff _).2 ⟨one [120], one_letts (by decide), one_flat [120]⟩, .inr rfl⟩
theorem x0_all : ∀ x ∈ [x0], okU x := fun x hx => by rw [List.mem_singleton.1 hx]; exact x0_ok
set_option maxRecDepth 1000000 in
set_option maxHeartbeats 4000000 in
theorem undoLoads_walk (A : Option Addr) (c : Nat) (xs : List U) (w : World) (hT : Tabs w) (hr : Kd.C k23 w A xs.length xs) (hc : xs.length ≤ c) (hn : xs.length ≤ 2932031007402) (hz : ∀ x ∈ xs, x.f4.size ≤ 140737488351232) :
    Calls Tryd.prog 4 #[.slice A xs.length c] w fun e w' => e = .returned (.bool true) ∧ Below w.heap.size w w' := by
  obtain ⟨bs, hbs, hsm⟩ := small_ev xs hn hz
  obtain ⟨k1, hk1⟩ := Go.Proofs.YthkihkkmoknbjaaDoorW.PrintWords.Ev.rounds hbs
  have HT := Lib.hid hT
  have HR := Lib.hid hr
  have K1 := Lib.hid hk1
  have SM := Lib.hid hsm
  clear hT hr hz hbs hk1 hsm
  go_enter Tryd.func4, Tryd.ntmps4
  go_wp2_with fail
  have XB : Hid ((w.alloc (.cells (ldCells x0) 23)).heap[w.heap.size]? = some (.cells (ldCells x0) 23 (0, 0))) := Lib.hid (blk_new w _)
  have BA : Hid (Below w.heap.size w (w.alloc (.cells (ldCells x0) 23))) := Lib.hid (below_alloc (Below.refl _ _) _)
  (go_at_call 14; refine (load_good (some ⟨w.heap.size, 0, none⟩) 1 [x0] _ (HT.out.below BA.out) (C_one XB.out) (fun x hx => by rw [List.mem_singleton.1 hx]; decide) (by decide) x0_all).mono ?_; rintro e w1 ⟨A1, c1, rfl, hs1, hb1⟩)
  have S1 := Lib.hid hs1
  have B1 := Lib.hid (below_step BA.out hb1)
  clear XB BA hs1 hb1
  go_upto_region 2 with (first | ((with_reducible refine gate_dst (N := 3) rfl ?_); refine box_event ?hg (N := 3) ?hd (cs := #[.slice none 0 0]) (t := 38) ?hr ?_; (case hd => rfl); (case hg => rfl); (case hr => first | (go_simp; done) | (go_simp; rfl)); intro gA hgA wA hboxA hbA; have GA := Lib.hid (show w.heap.size ≤ gA by rw [hgA]; exact B1.out.size); have GB := Lib.hid (show w1.heap.size ≤ gA by rw [hgA]; exact Nat.le_refl _); have BA := Lib.hid hbA; have XA := Lib.hid hboxA; have y0 := (blk_cell hboxA 0).trans rfl; have z0 := blk_frozen hboxA 0; clear hgA hboxA hbA))
  refine gen2 (φ := fun W => Code.wp _ _ _ _ W) (P := fun W => Below w.heap.size w W ∧ W.cell? ⟨gA, 0, none⟩ = some (.slice A1 1 c1) ∧ Hid (Stk W (.agg #[.slice A1 1 c1]) ([x0].map thOf))) ⟨below_set (below_step B1.out BA.out) GA.out, (blk_cell (blk_set XA.out 0 (.slice A1 1 c1)) 0).trans rfl, Lib.hid (S1.out.below (below_set BA.out GB.out))⟩ ?_
  rintro W ⟨hbW, y1, SW⟩
  have BW := Lib.hid hbW
  clear hbW y0 z0 XA BA GA GB S1 B1
  go_wp2_with fail
  (go_at_call 15; refine (plain_calls (.agg #[.slice A1 1 c1]) ([x0].map thOf) _ SW.out (by decide)).mono ?_; rintro e w2 ⟨v2, rfl, hr2, hb2⟩)
  have B2 := Lib.hid (below_step BW.out hb2)
  obtain ⟨A2, c2, e2⟩ := Kd.R_slice hr2
  have e3 : v2 = .slice A2 1 c2 := e2
  subst e3
  clear hr2 hb2 SW y1 BW e2
  go_wp2_with fail
  (go_at_call 16; refine (chancellaw07_small.calls k1 A c xs bs _ (Kd.C_below HR.out B2.out) hc K1.out).mono ?_; rintro e w3 ⟨rfl, hb3⟩)
  have B3 := Lib.hid (below_step B2.out hb3)
  clear hb3
  cases bs with
  | false =>
    go_wp2
    go_ret
    exact ⟨rfl, B3.out⟩
  | true =>
    obtain ⟨hl60, hz2⟩ := SM.out rfl
    have hn2 : xs.length ≤ 1099511627776 := by omega
    have hz3 := Lib.hid (show ∀ x ∈ xs, x.f4.size ≤ 1099511627776 from fun x hx => by have := hz2 x hx; omega)
    obtain ⟨k2, hk2⟩ := Go.Proofs.YthkihkkmoknbjaaDoorW.PrintWords.Ev.rounds (refRightU_ev xs hn (fun x hx => by have := hz3.out x hx; omega))
    have K2 := Lib.hid hk2
    clear hz2 hk2
    cases hb : okB xs with
    | true =>
      rw [hb] at K2
      have OK := Lib.hid (okB_true.1 hb)
      obtain ⟨k3, hk3⟩ := Go.Proofs.YthkihkkmoknbjaaDoorW.PrintWords.Ev.rounds (same_ev xs hn)
      have K3 := Lib.hid hk3
      clear hb hk3
      go_wp2_with fail
      (go_at_call 14; refine (load_good A c xs _ (HT.out.below B3.out) (Kd.C_below HR.out B3.out) hz3.out hn2 OK.out).mono ?_; rintro e w4 ⟨A4, c4, rfl, hs4, hb4⟩)
      have S4 := Lib.hid hs4
      have B4 := Lib.hid (below_step B3.out hb4)
      clear hs4 hb4
      go_upto_region 7 with (first | ((with_reducible refine gate_dst (N := 5) rfl ?_); refine box_event ?hg (N := 5) ?hd (cs := #[.slice none 0 0]) (t := 38) ?hr ?_; (case hd => rfl); (case hg => rfl); (case hr => first | (go_simp; done) | (go_simp; rfl)); intro gC hgC wC hboxC hbC; have GA := Lib.hid (show w.heap.size ≤ gC by rw [hgC]; exact B4.out.size); have GB := Lib.hid (show w4.heap.size ≤ gC by rw [hgC]; exact Nat.le_refl _); have BA := Lib.hid hbC; have XA := Lib.hid hboxC; have y0 := (blk_cell hboxC 0).trans rfl; have z0 := blk_frozen hboxC 0; clear hgC hboxC hbC))
      refine gen2 (φ := fun W => Code.wp _ _ _ _ W) (P := fun W => Below w.heap.size w W ∧ W.cell? ⟨gC, 0, none⟩ = some (.slice A4 xs.length c4) ∧ Hid (Stk W (.agg #[.slice A4 xs.length c4]) (xs.map thOf))) ⟨below_set (below_step B4.out BA.out) GA.out, (blk_cell (blk_set XA.out 0 (.slice A4 xs.length c4)) 0).trans rfl, Lib.hid (S4.out.below (below_set BA.out GB.out))⟩ ?_
      rintro V ⟨hbV, y2, SV⟩
      have BV := Lib.hid hbV
      clear hbV y0 z0 XA BA GA GB S4 B4
      go_wp2_with fail
      (go_at_call 10; refine (chancelref07_Right.calls k2 A c xs true _ (Kd.C_below HR.out BV.out) hc K2.out).mono ?_; rintro e w5 ⟨rfl, hb5⟩)
      have B5 := Lib.hid (below_step BV.out hb5)
      have S5 := Lib.hid (SV.out.below hb5)
      replace y2 := pw_cell_below hb5 y2
      clear hb5 SV BV
      go_wp2_with fail
      (go_at_call 15; refine (plain_calls (.agg #[.slice A4 xs.length c4]) (xs.map thOf) _ S5.out (by simpa using hn2)).mono ?_; rintro e w6 ⟨v6, rfl, hr6, hb6⟩)
      have B6 := Lib.hid (below_step B5.out hb6)
      rw [plain_of OK.out] at hr6
      obtain ⟨A6, c6, e6, hc6, hC6⟩ := Kd.R_reads hr6
      subst e6
      have C6 := Lib.hid hC6
      clear hr6 hb6 hC6 y2 S5
      go_wp2_with fail
      (go_at_call 17; refine (chancelref07_Same.calls k3 A6 c6 xs A c xs true _ C6.out hc6 (Kd.C_below HR.out B6.out) hc K3.out).mono ?_; rintro e w7 ⟨rfl, hb7⟩)
      have B7 := Lib.hid (below_step B6.out (below_drawn hb7))
      clear hb7
      go_wp2
      go_ret
      exact ⟨rfl, B7.out⟩
    | false =>
      rw [hb] at K2
      have OK := Lib.hid (okB_false.1 hb)
      clear hb
      go_wp2_with fail
      (go_at_call 14; refine (load_bad A c xs _ (HT.out.below B3.out) (Kd.C_below HR.out B3.out) hz3.out hn2 OK.out).mono ?_; rintro e w4 ⟨rfl, hb4⟩)
      have B4 := Lib.hid (below_step B3.out hb4)
      clear hb4
      go_upto_region 7 with (first | ((with_reducible refine gate_dst (N := 5) rfl ?_); refine box_event ?hg (N := 5) ?hd (cs := #[.slice none 0 0]) (t := 38) ?hr ?_; (case hd => rfl); (case hg => rfl); (case hr => first | (go_simp; done) | (go_simp; rfl)); intro gC hgC wC hboxC hbC; have GA := Lib.hid (show w.heap.size ≤ gC by rw [hgC]; exact B4.out.size); have BA := Lib.hid hbC; have XA := Lib.hid hboxC; have y0 := (blk_cell hboxC 0).trans rfl; have z0 := blk_frozen hboxC 0; clear hgC hboxC hbC))
      refine gen2 (φ := fun W => Code.wp _ _ _ _ W) (P := fun W => Below w.heap.size w W ∧ W.cell? ⟨gC, 0, none⟩ = some (.slice none 0 0)) ⟨below_set (below_step B4.out BA.out) GA.out, (blk_cell (blk_set XA.out 0 (.slice none 0 0)) 0).trans rfl⟩ ?_
      rintro V ⟨hbV, y2⟩
      have BV := Lib.hid hbV
      clear hbV y0 z0 XA BA GA B4
      go_wp2_with fail
      (go_at_call 10; refine (chancelref07_Right.calls k2 A c xs false _ (Kd.C_below HR.out BV.out) hc K2.out).mono ?_; rintro e w5 ⟨rfl, hb5⟩)
      have B5 := Lib.hid (below_step BV.out hb5)
      replace y2 := pw_cell_below hb5 y2
      clear hb5 BV
      go_wp2_with fail
      (go_at_call 15; refine (plain_calls (.agg #[.slice none 0 0]) [] _ (stk_nil _) (by decide)).mono ?_; rintro e w6 ⟨v6, rfl, hr6, hb6⟩)
      have B6 := Lib.hid (below_step B5.out hb6)
      obtain ⟨A6, c6, e6⟩ := Kd.R_slice hr6
      have e7 : v6 = .slice A6 0 c6 := e6
      subst e7
      clear hr6 hb6 e6 y2
      go_wp2
      go_ret
      exact ⟨rfl, B6.out⟩
end Go.Proofs.YthkihkkmoknbjaaDoor.Undo
/- The walks of thing, slices.Clone at things, and Stack.Push. Conditions: at most 2^40 things; texts of at most 2^40 bytes; Go's two tables of utf8 as they are laid. -/
namespace Go.Proofs.YthkihkkmoknbjaaDoor.Undo
open Go.RowKit Go.Proofs.YthkihkkmoknbjaaDoorW.PrintWords Go.Proofs.YthkihkkmoknbjaaDoorW.PrintLast Go.Proofs.YthkihkkmoknbjaaDoorW.PrintMore Go.Proofs.YthkihkkmoknbjaaDoor.Rope Go.Proofs.YthkihkkmoknbjaaDoor.PUndoFinds
set_option linter.unusedVariables false
set_option linter.unusedSimpArgs false
attribute [local go_sem] max2_int min2_int max_two min_two
set_option maxRecDepth 100000 in
set_option maxHeartbeats 800000 in
theorem cloneI (A : Option Addr) (c : Nat) (xs : List (TypeId × Value)) (w : World) (hr : Kd.C kI w A xs.length xs) (hc : xs.length ≤ c) (hl : xs.length * 16 ≤ 140737488355328) :
    Calls Tryd.prog 31 #[.slice A xs.length c] w fun e w' => ∃ v, e = .returned v ∧ OwnE encI 20 w' w.heap.size v xs ∧ Below w.heap.size w w' := by
  have qn : ∀ (w : World) (a : Option Addr) (n c : Nat), (binOp .eql 36 (.slice a n c) (.slice none 0 0)).run Tryd.prog w = .ok (.bool a.isNone) w := fun w a n c => Lib.run_eql_slice_nil w _ _ a n c 0 0 Tryd.underlying36
  have HR := Lib.hid hr
  have HC := Lib.hid hc
  have HL := Lib.hid hl
  cases A with
  | none =>
    have hx : xs = [] := by
      rcases Nat.eq_zero_or_pos xs.length with h0 | h0
      · exact List.length_eq_zero_iff.1 h0
      · obtain ⟨_, e, _⟩ := hr.2.2 h0
        cases e
    clear hr hc hl
    go_enter Tryd.func31, Tryd.ntmps31
    go_wp2
    go_ret
    subst hx
    exact ⟨_, rfl, ⟨rfl, .inl ⟨rfl, rfl⟩⟩, Below.refl _ _⟩
  | some ad =>
    clear hr hc hl
    go_enter Tryd.func31, Tryd.ntmps31
    go_wp2_with (first
      | ((with_reducible refine gate_dst (N := 5) rfl ?_)
         refine Kd.R_lit kI _ 20 ?hg (N := 5) ?hd (xs := ([] : List (TypeId × Value))) (inner := []) (ok := fun _ => True) (okp := fun _ => True) ?hr ?hp (fun _ hk => hk) trivial (Below.refl _ _) (Nat.le_refl _) (by simp) ?_
         (case hd => rfl); (case hg => rfl); (case hr => first | (go_simp; done) | (go_simp; rfl)); (case hp => exact Reps.none _ _)
         intro v1 w1 HO HB hg hat; have HO1 := Lib.hid HO; have HB1 := Lib.hid HB; clear HO HB hg hat)
      | ((with_reducible refine gate_dst (N := 7) rfl ?_)
         refine Kd.R_append_rows kI _ ?hg (.tmp 5) (.tmp 6) 36 20 .nilIface 16 rfl Tryd.underlying36 info_any rfl (by decide) (by decide) _ [] xs (some ad) xs.length c (fun _ => True) (fun k => some k ≠ v1.ownBlock) rfl rfl HO1.out (Kd.C_below HR.out HB1.out) (fun x cs h => h) (fun _ h => ⟨trivial, h⟩) (fun _ _ => trivial) HB1.out (HB1.out.size) (by have := HL.out; simpa using this) ?_
         (case hg => rfl)
         intro v2 w2 HO HB hg hat; have HO2 := Lib.hid HO; have HB2 := Lib.hid HB; clear HO HB hg hat))
    go_ret
    exact ⟨_, rfl, Kd.own_of_R HO2.out, HB2.out⟩
/-- Rows told by their cells. -/
theorem C_cells {w : World} {g o : Nat} {xs : List (TypeId × Value)} (h : ∀ (j : Nat) x, xs[j]? = some x → w.cell? ⟨g, o + j, none⟩ = some (encI x)) (hl : xs.length ≤ 9223372036854775807) : Kd.C kI w (some ⟨g, o, none⟩) xs.length xs := by
  refine ⟨rfl, hl, fun _ => ⟨_, rfl, fun j p hj => ⟨[encI p], rfl, rfl, fun i u hu => ?_⟩⟩⟩
  cases i with
  | succ i => simp at hu
  | zero =>
    have e : encI p = u := by simpa using hu
    rw [← e]
    have := h j p hj
    have a : (⟨g, o, none⟩ : Addr).add (j * kI.sz + 0) = ⟨g, o + j, none⟩ := by
      show Addr.add ⟨g, o, none⟩ (j * 1 + 0) = _
      rw [Nat.mul_one, Nat.add_zero]
      unfold Addr.add
      split
      · rename_i h0; simp_all
      · rfl
    rw [a]
    exact this
/-- A thing or none. -/
def ThO (w : World) (v : Value) : Option Th → Prop
  | none => v = .nilIface
  | some t => ThR w v t
theorem ThO.below {w w1 : World} {v : Value} {t : Option Th} (h : ThO w v t) (hb : Below w.heap.size w w1) : ThO w1 v t := by
  cases t with
  | none => exact h
  | some t => exact ThR.below h hb
theorem ThR.form {w : World} {v : Value} {t : Th} (h : ThR w v t) : ∃ y, v = encI y := by
  cases t with
  | put d m l => exact ⟨(_, _), h⟩
  | took d m l s => obtain ⟨p, _, e⟩ := h; exact ⟨(_, _), e⟩
/-- What Push makes. -/
def pushT (ts : List Th) (t : Th) (d : Int) : List Th := if max d 1 < ((ts.length + 1 : Nat) : Int) then (ts ++ [t]).drop 1 else ts ++ [t]
def pushO (ts : List Th) (t : Th) (d : Int) : Option Th := if max d 1 < ((ts.length + 1 : Nat) : Int) then (ts ++ [t])[0]? else none
def RetPush (ts : List Th) (o : Option Th) (w : World) (e : Ending) (w' : World) : Prop :=
  ∃ A c v, e = .returned (.tuple #[.agg #[.slice A ts.length c], v]) ∧ Stk w' (.agg #[.slice A ts.length c]) ts ∧ ThO w' v o ∧ Below w.heap.size w w'
theorem Ths.drop {w : World} {xs : List (TypeId × Value)} {ts : List Th} (h : Ths w xs ts) (k : Nat) : Ths w (xs.drop k) (ts.drop k) :=
  ⟨by simp [h.1], fun j x t h1 h2 => h.2 (k + j) x t (by rw [List.getElem?_drop] at h1; exact h1) (by rw [List.getElem?_drop] at h2; exact h2)⟩
theorem cell_same {w w1 : World} {g : Nat} (h : w1.heap[g]? = w.heap[g]?) (j : Nat) : w1.cell? ⟨g, j, none⟩ = w.cell? ⟨g, j, none⟩ := by simp [World.cell?, h]
theorem Stk.drew {w : World} {v : Value} {ts : List Th} (h : Stk w v ts) : Stk w.drew v ts := h.below (Below.refl _ _).drew
theorem push_big {w W : World} {g c3 k : Nat} {xs : List (TypeId × Value)} {y x0 : TypeId × Value} {ts : List Th} {t : Th} {d : Int} (hk : w.heap.size ≤ k) (TS : Ths W (xs ++ [y]) (ts ++ [t]))
    (ho : OwnE encI 20 W w.heap.size (.slice (some ⟨g, 0, none⟩) (xs.length + 1) c3) (xs ++ [y])) (hcell : ∀ (j : Nat) x, (xs ++ [y])[j]? = some x → W.cell? ⟨g, j, none⟩ = some (encI x))
    (XB : W.heap[k]? = some (.cells #[.slice none 0 0] 38 (0, 0))) (hB : Below w.heap.size w W) (hc3 : xs.length + 1 ≤ c3) (hx : (xs ++ [y])[0]? = some x0) (hbig : max d 1 < ((ts.length + 1 : Nat) : Int)) (hl : xs.length ≤ 1099511627776) :
    RetPush (pushT ts t d) (pushO ts t d) w (.returned (.tuple #[.agg #[.slice (some ⟨g, 1, none⟩) xs.length (c3 - 1)], encI x0])) ((W.setCell ⟨k, 0, none⟩ (.slice (some ⟨g, 1, none⟩) xs.length (c3 - 1))).drew) := by
  have hn : ts.length = xs.length := by have := TS.1; simpa using this
  have PT : pushT ts t d = (ts ++ [t]).drop 1 := by unfold pushT; rw [if_pos hbig]
  have PO : pushO ts t d = (ts ++ [t])[0]? := by unfold pushO; rw [if_pos hbig]
  have hlen : ((ts ++ [t]).drop 1).length = xs.length := by simp; omega
  have hlx : ((xs ++ [y]).drop 1).length = xs.length := by simp
  obtain ⟨cs, hcs⟩ := own_typed ho g rfl
  have hg := set_type XB (t := 20) (by decide) 0 (.slice (some ⟨g, 1, none⟩) xs.length (c3 - 1)) g cs hcs
  have T2 : Ths (W.setCell ⟨k, 0, none⟩ (.slice (some ⟨g, 1, none⟩) xs.length (c3 - 1))) (xs ++ [y]) (ts ++ [t]) := TS.move (set_type XB (by decide) _ _)
  rw [PT, PO]
  refine ⟨some ⟨g, 1, none⟩, c3 - 1, encI x0, by rw [hlen], Stk.drew ?_, ?_, (below_set hB hk).drew⟩
  · refine ⟨some ⟨g, 1, none⟩, c3 - 1, (xs ++ [y]).drop 1, by rw [hlen, hlx], by rw [hlx]; omega, C_cells (fun j x hj => ?_) (by rw [hlx]; omega), T2.drop 1, fun ad ea => by cases ea; exact ⟨cs, hg.trans hcs⟩⟩
    rw [List.getElem?_drop] at hj
    rw [cell_same hg]
    exact hcell _ x hj
  · obtain ⟨t0, ht0⟩ : ∃ t', (ts ++ [t])[0]? = some t' := ⟨_, List.getElem?_eq_getElem (by simp)⟩
    rw [ht0]
    exact (T2.2 0 x0 t0 hx ht0).below (Below.refl _ _).drew
theorem push_small {w W : World} {g c3 k : Nat} {xs : List (TypeId × Value)} {y : TypeId × Value} {ts : List Th} {t : Th} {d : Int} (hk : w.heap.size ≤ k) (TS : Ths W (xs ++ [y]) (ts ++ [t]))
    (ho : OwnE encI 20 W w.heap.size (.slice (some ⟨g, 0, none⟩) (xs.length + 1) c3) (xs ++ [y]))
    (XB : W.heap[k]? = some (.cells #[.slice none 0 0] 38 (0, 0))) (hB : Below w.heap.size w W) (hbig : ¬ max d 1 < ((ts.length + 1 : Nat) : Int)) :
    RetPush (pushT ts t d) (pushO ts t d) w (.returned (.tuple #[.agg #[.slice (some ⟨g, 0, none⟩) (xs.length + 1) c3], .nilIface])) (W.setCell ⟨k, 0, none⟩ (.slice (some ⟨g, 0, none⟩) (xs.length + 1) c3)) := by
  have hn : ts.length = xs.length := by have := TS.1; simpa using this
  have PT : pushT ts t d = ts ++ [t] := by unfold pushT; rw [if_neg hbig]
  have PO : pushO ts t d = none := by unfold pushO; rw [if_neg hbig]
  have hlen : (ts ++ [t]).length = xs.length + 1 := by simp; omega
  rw [PT, PO]
  refine ⟨_, _, _, by rw [hlen], ?_, rfl, below_set hB hk⟩
  rw [hlen]
  exact own_stk (ho.move (set_type XB (by decide) _ _)) (TS.move (set_type XB (by decide) _ _))
set_option maxRecDepth 1000000 in
set_option maxHeartbeats 4000000 in
theorem push_calls (A : Option Addr) (n c : Nat) (ts : List Th) (y : TypeId × Value) (t : Th) (d : Int) (w : World) (h : Stk w (.agg #[.slice A n c]) ts) (ht : ThR w (encI y) t) (hl : ts.length ≤ 1099511627776) :
    Calls Tryd.prog 18 #[.agg #[.slice A n c], .iface y.1 y.2, .int .i64 d] w (RetPush (pushT ts t d) (pushO ts t d) w) := by
  obtain ⟨A', c', xs, e, hc, hr, hth, _⟩ := h
  injection e with e
  injection e with e
  injection e with e _
  injection e with e1 e2 e3
  subst e1; subst e2; subst e3
  have HR := Lib.hid hr
  have HTH := Lib.hid hth
  have hn : ts.length = xs.length := hth.1
  have HN := Lib.hid hn
  have HT := Lib.hid ht
  have hl2 : xs.length ≤ 1099511627776 := by omega
  clear hr hth ht hl
  go_enter Tryd.func18, Tryd.ntmps18
  go_wp2_with fail
  have B0 : Hid (Below w.heap.size w ((w.alloc (.cells #[.slice A xs.length c] 38)).alloc (.cells #[.slice none 0 0] 38))) := Lib.hid (below_alloc (below_alloc (Below.refl _ _) _) _)
  have X0 : Hid (((w.alloc (.cells #[.slice A xs.length c] 38)).alloc (.cells #[.slice none 0 0] 38)).heap[w.heap.size]? = some (.cells #[.slice A xs.length c] 38 (0, 0))) := Lib.hid (blk_alloc (blk_new w _) _)
  have X1 : Hid (((w.alloc (.cells #[.slice A xs.length c] 38)).alloc (.cells #[.slice none 0 0] 38)).heap[w.heap.size + 1]? = some (.cells #[.slice none 0 0] 38 (0, 0))) := Lib.hid (by have := blk_new (w.alloc (.cells #[.slice A xs.length c] 38)) (.cells #[.slice none 0 0] 38); simpa using this)
  (go_at_call 8; refine (mark_calls t (encI y) _ (HT.out.below B0.out)).mono ?_; rintro e w1 ⟨rfl, hb1⟩)
  have B1 := Lib.hid (below_step B0.out hb1)
  have Y0 := Lib.hid (blk_below X0.out hb1)
  have Y1 := Lib.hid (blk_below X1.out hb1)
  have c0 : w1.cell? ⟨w.heap.size, 0, none⟩ = some (.slice A xs.length c) := blk_cell Y0.out 0
  clear X0 X1 B0 hb1
  go_wp2_with fail
  (go_at_call 31; refine (cloneI A c xs _ (Kd.C_below HR.out B1.out) hc (by omega)).mono ?_; rintro e w2 ⟨v2, rfl, ho2, hb2⟩)
  have B2 := Lib.hid (below_step B1.out hb2)
  have Z1 := Lib.hid (blk_below Y1.out hb2)
  have HO2 := Lib.hid ho2
  have LE := Lib.hid B1.out.size
  clear c0 Y0 Y1 ho2 hb2
  go_upto_region 5 with (first | ((with_reducible refine gate_builtin (b := .append) rfl ?_); refine print_append_of (w0 := w) encI w.heap.size rfl _ _ 36 20 .nilIface 16 rfl Tryd.underlying36 info_any rfl (by decide) v2 xs y rfl rfl rfl ?h1 ?h2 ?h3 ?h4 ?_; (case h1 => exact own_less HO2.out LE.out); (case h2 => exact B2.out); (case h3 => exact B2.out.size); (case h4 => omega); intro v3 w3 ho3 hb3 hg3 hat3; obtain ⟨g, c3, e3, hc3, hcell⟩ := OwnE.row (enc := encI) ho3 (by simp); rw [List.length_append, List.length_singleton] at e3 hc3; subst e3; have HO3 := Lib.hid ho3; have HB3 := Lib.hid hb3; have HG3 := Lib.hid hg3; have HCELL := Lib.hid hcell; clear ho3 hb3 hg3 hat3 hcell))
  have XB := Lib.hid ((HO2.out.grown HG3.out (t := 38) (by decide) _ _ Z1.out).trans Z1.out)
  clear Z1
  have hl0 : (0 : Int) ≤ (xs.length : Int) := by omega
  have y1 : w3.cell? ⟨w.heap.size + 1, 0, none⟩ = some (.slice none 0 0) := blk_cell XB.out 0
  have z1 := blk_frozen XB.out 0
  have TS : Hid (Ths w3 (xs ++ [y]) (ts ++ [t])) := Lib.hid ((HTH.out.below HB3.out).snoc (HT.out.below HB3.out))
  by_cases hbig : max d 1 < ((ts.length + 1 : Nat) : Int)
  · have e1 : decide ((1 : Int) < (xs.length : Int) + 1) = true := by simp; omega
    have e2 : decide (d < (xs.length : Int) + 1) = true := by simp; omega
    have k1 : (1 : Int) ≤ (xs.length : Int) + 1 := by omega
    have k2 : (xs.length : Int) + 1 ≤ (c3 : Int) := by omega
    have k3 : ¬ c3 = 1 := by omega
    have k4 : (0 : Int) < (xs.length : Int) + 1 := by omega
    obtain ⟨x0, hx0⟩ : ∃ x, (xs ++ [y])[0]? = some x := ⟨_, List.getElem?_eq_getElem (by simp)⟩
    have g0 := HCELL.out 0 x0 hx0
    have HX0 := Lib.hid hx0
    have HBIG := Lib.hid hbig
    have hne : ¬ g = w.heap.size + 1 := by obtain ⟨cs, hcs⟩ := own_typed HO3.out g rfl; exact blk_ne hcs XB.out (by decide)
    clear hx0 hbig
    by_cases hd1 : d < 1
    all_goals
      go_upto_region 6 with (fail)
      go_region
      all_goals
        go_wp2
        refine bodyPost_ret (results_ct rfl _ _ (w.heap.size + 1) 38 #[.slice (some ⟨g, 1, none⟩) xs.length (c3 - 1)] (0, 0) _ rfl (blk_drew (blk_put XB.out 0 _ rfl)) Tryd.underlying38 rfl (by kernel_rfl)) rfl ?_
        exact push_big (by omega) TS.out HO3.out HCELL.out XB.out HB3.out hc3 HX0.out HBIG.out hl2
  · have HBIG := Lib.hid hbig
    by_cases hd1 : d < 1
    · have e1 : decide ((1 : Int) < (xs.length : Int) + 1) = false := by simp; omega
      clear hbig
      go_wp2
      refine bodyPost_ret (results_ct rfl _ _ (w.heap.size + 1) 38 #[.slice (some ⟨g, 0, none⟩) (xs.length + 1) c3] (0, 0) _ rfl (blk_put XB.out 0 _ rfl) Tryd.underlying38 rfl (by kernel_rfl)) rfl ?_
      exact push_small (by omega) TS.out HO3.out XB.out HB3.out (Int.not_lt.2 HBIG.out)
    · have e2 : decide (d < (xs.length : Int) + 1) = false := by simp; omega
      clear hbig
      go_wp2
      refine bodyPost_ret (results_ct rfl _ _ (w.heap.size + 1) 38 #[.slice (some ⟨g, 0, none⟩) (xs.length + 1) c3] (0, 0) _ rfl (blk_put XB.out 0 _ rfl) Tryd.underlying38 rfl (by kernel_rfl)) rfl ?_
      exact push_small (by omega) TS.out HO3.out XB.out HB3.out (Int.not_lt.2 HBIG.out)
end Go.Proofs.YthkihkkmoknbjaaDoor.Undo
/- The walks of the laws' own thing and plain. Conditions: texts of at most 2^40 bytes; Go's two tables of utf8 as they are laid. -/
namespace Go.Proofs.YthkihkkmoknbjaaDoor.Undo
open Go.RowKit Go.Proofs.YthkihkkmoknbjaaDoorW.PrintWords Go.Proofs.YthkihkkmoknbjaaDoorW.PrintLast Go.Proofs.YthkihkkmoknbjaaDoorW.PrintMore Go.Proofs.YthkihkkmoknbjaaDoor.Rope Go.Proofs.YthkihkkmoknbjaaDoor.PUndoFinds
set_option linter.unusedVariables false
set_option linter.unusedSimpArgs false
/-- A thing comes back. -/
def RetTh (t : Th) (w : World) (e : Ending) (w' : World) : Prop := ∃ y : TypeId × Value, e = .returned (.iface y.1 y.2) ∧ ThR w' (encI y) t ∧ Below w.heap.size w w'
set_option maxRecDepth 1000000 in
set_option maxHeartbeats 1000000 in
theorem thing_calls (x : U) (w : World) (hT : Tabs w) (hok : okU x) (hz : x.f4.size ≤ 1099511627776) : Calls Tryd.prog 11 #[.agg (ldCells x)] w (RetTh (thOf x) w) := by
  have HT := Lib.hid hT
  have OK := Lib.hid hok
  clear hT hok
  by_cases h1 : x.f0 = 1
  · have d1 : (x.f0 == 1) = true := by simp [h1]
    have H1 := Lib.hid h1
    clear h1
    go_enter Tryd.func11, Tryd.ntmps11
    go_wp2_with (first | ((with_reducible refine gate_dst (N := 1) rfl ?_); refine box_event ?hg (N := 1) ?hd (cs := ldCells x) (t := 23) ?hr ?_; (case hd => rfl); (case hg => rfl); (case hr => first | (go_simp; done) | (go_simp; rfl)); intro gA hgA wA hboxA hbA; have BA := Lib.hid hbA; have y0 := (blk_cell hboxA 0).trans rfl; have y1 := (blk_cell hboxA 1).trans rfl; have y2 := (blk_cell hboxA 2).trans rfl; have y3 := (blk_cell hboxA 3).trans rfl; clear hgA hboxA hbA))
    go_ret
    refine ⟨(_, _), rfl, ?_, BA.out⟩
    unfold thOf
    rw [if_pos H1.out]
    rfl
  · have d1 : (x.f0 == 1) = false := by simp; omega
    have H1 := Lib.hid h1
    clear h1
    go_enter Tryd.func11, Tryd.ntmps11
    go_wp2_with (first
      | ((with_reducible refine gate_dst (N := 1) rfl ?_); refine box_event ?hg (N := 1) ?hd (cs := ldCells x) (t := 23) ?hr ?_; (case hd => rfl); (case hg => rfl); (case hr => first | (go_simp; done) | (go_simp; rfl)); intro gA hgA wA hboxA hbA; have BA := Lib.hid hbA; have XA := Lib.hid hboxA; have y0 := (blk_cell hboxA 0).trans rfl; have y4 := (blk_cell hboxA 4).trans rfl; clear hgA hboxA hbA)
      | (go_at_call 26; refine (new_rp x.f4 _ hz (HT.out.below BA.out) OK.out.1).mono ?_; rintro e w1 ⟨p, rfl, hr, hb⟩; have RP := Lib.hid hr; have B1 := Lib.hid (below_step BA.out hb); have hbx := blk_below XA.out hb; have u1 : w1.cell? ⟨gA, 1, none⟩ = some (.int .i64 x.f1) := blk_cell hbx 1; have u2 : w1.cell? ⟨gA, 2, none⟩ = some (.int .i64 x.f2) := blk_cell hbx 2; have u3 : w1.cell? ⟨gA, 3, none⟩ = some (.int .i64 x.f3) := blk_cell hbx 3; clear hr hb hbx))
    go_ret
    refine ⟨(_, _), rfl, ?_, B1.out⟩
    unfold thOf
    rw [if_neg H1.out]
    exact ⟨p, RP.out, rfl⟩
@[go_sem] theorem as_np (w : World) : (Instr.typeAssert .nilIface 20 27 true).run Tryd.prog w = .ok (.tuple #[.agg #[.int .i64 0, .int .i64 0, .int .i64 0], .bool false]) w := by kernel_rfl
@[go_sem] theorem as_nt (w : World) : (Instr.typeAssert .nilIface 20 60 true).run Tryd.prog w = .ok (.tuple #[.agg #[.int .i64 0, .int .i64 0, .int .i64 0, .pointer none], .bool false]) w := by kernel_rfl
def zU : U := ⟨0, 0, 0, 0, ⟨#[]⟩⟩
/-- What the law's plain leaves. -/
def RetPl (x : U) (b : Bool) (w : World) (e : Ending) (w' : World) : Prop := e = .returned (.tuple #[.agg (ldCells x), .bool b]) ∧ Below w.heap.size w w'
set_option maxRecDepth 1000000 in
set_option maxHeartbeats 1000000 in
theorem plainV_none (w : World) : Calls Tryd.prog 20 #[.nilIface] w (RetPl zU false w) := by
  go_enter Tryd.func20, Tryd.ntmps20
  go_wp2
  refine bodyPost_ret (v := .tuple #[.agg (ldCells zU), .bool false]) (by simp [results, Tryd.results20, go_sem, zU]; done) rfl ⟨rfl, ?_⟩
  repeat (first | exact Below.refl _ _ | apply below_alloc | (refine below_set ?_ (by simp; try omega)))
set_option maxRecDepth 1000000 in
set_option maxHeartbeats 1000000 in
theorem plainV_put (d m l : Int) (w : World) : Calls Tryd.prog 20 #[.iface 27 (.agg #[.int .i64 d, .int .i64 m, .int .i64 l])] w (RetPl ⟨1, d, m, l, ⟨#[]⟩⟩ true w) := by
  go_enter Tryd.func20, Tryd.ntmps20
  go_wp2
  refine bodyPost_ret (v := .tuple #[.agg (ldCells ⟨1, d, m, l, ⟨#[]⟩⟩), .bool true]) (by simp [results, Tryd.results20, go_sem]; done) rfl ⟨rfl, ?_⟩
  repeat (first | exact Below.refl _ _ | apply below_alloc | (refine below_set ?_ (by simp; try omega)))
/-- What holds all along plain's drawn region. -/
abbrev P6 (w0 : World) (g2 g : Nat) (d m l : Int) (p : Option Addr) (w' : World) : Prop :=
  w'.cell? ⟨g, 0, none⟩ = some (.int .i64 d) ∧ w'.cell? ⟨g, 1, none⟩ = some (.int .i64 m) ∧ w'.cell? ⟨g, 2, none⟩ = some (.int .i64 l) ∧ w'.cell? ⟨g, 3, none⟩ = some (.pointer p) ∧ Below w0.heap.size w0 w' ∧ Aside0 (∃ u0 u1 u2 u3 u4, w'.heap[g2]? = some (.cells #[u0, u1, u2, u3, u4] 23 (0, 0)))
theorem P6.b {w0 W : World} {g2 g : Nat} {d m l : Int} {p : Option Addr} (h : P6 w0 g2 g d m l p W) : Below w0.heap.size w0 W := h.2.2.2.2.1
theorem P6.next {w0 W W' : World} {g2 g : Nat} {d m l : Int} {p : Option Addr} (h : P6 w0 g2 g d m l p W) (hb : Below W.heap.size W W') : P6 w0 g2 g d m l p W' :=
  ⟨pw_cell_below hb h.1, pw_cell_below hb h.2.1, pw_cell_below hb h.2.2.1, pw_cell_below hb h.2.2.2.1, below_step h.2.2.2.2.1 hb, ⟨by obtain ⟨u0, u1, u2, u3, u4, h5⟩ := h.2.2.2.2.2.out; exact ⟨u0, u1, u2, u3, u4, blk_below h5 hb⟩⟩⟩
theorem P6.set1 {w0 W : World} {g2 g : Nat} {d m l : Int} {p : Option Addr} (h : P6 w0 g2 g d m l p W) (hg : w0.heap.size ≤ g2) (hn : g ≠ g2) (j : Nat) (u : Value) : P6 w0 g2 g d m l p (W.setCell ⟨g2, j, none⟩ u) := by
  have e := Below.heap_setCell W ⟨g2, j, none⟩ u g hn
  refine ⟨(cell_same e 0).trans h.1, (cell_same e 1).trans h.2.1, (cell_same e 2).trans h.2.2.1, (cell_same e 3).trans h.2.2.2.1, below_set h.2.2.2.2.1 hg, ⟨?_⟩⟩
  obtain ⟨u0, u1, u2, u3, u4, h5⟩ := h.2.2.2.2.2.out
  have h6 := blk_set h5 j u
  have e5 : (#[u0, u1, u2, u3, u4].setIfInBounds j u).size = 5 := by simp
  obtain ⟨v0, v1, v2, v3, v4, e6⟩ : ∃ v0 v1 v2 v3 v4, #[u0, u1, u2, u3, u4].setIfInBounds j u = #[v0, v1, v2, v3, v4] := by
    generalize #[u0, u1, u2, u3, u4].setIfInBounds j u = a at e5
    obtain ⟨l⟩ := a
    match l, e5 with
    | [v0, v1, v2, v3, v4], _ => exact ⟨v0, v1, v2, v3, v4, rfl⟩
  exact ⟨v0, v1, v2, v3, v4, by rw [h6, e6]⟩
set_option maxRecDepth 1000000 in
set_option maxHeartbeats 4000000 in
theorem plainV_took (d m l : Int) (p : Option Addr) (s : ByteArray) (w : World) (h : Rp w p s) : Calls Tryd.prog 20 #[.iface 60 (.agg #[.int .i64 d, .int .i64 m, .int .i64 l, .pointer p])] w (RetPl ⟨2, d, m, l, s⟩ true w) := by
  have RP := Lib.hid h
  clear h
  go_enter Tryd.func20, Tryd.ntmps20
  go_upto_region 6 with (first
    | ((with_reducible refine gate_dst (N := 2) rfl ?_); refine box_event ?hg (N := 2) ?hd (cs := ldCells zU) (t := 23) ?hr ?_; (case hd => rfl); (case hg => rfl); (case hr => first | (go_simp; done) | (go_simp; rfl)); intro g2 hg2 w2 hx2 hb2; have G2 := Lib.hid (show w.heap.size ≤ g2 by rw [hg2]; exact Nat.le_refl _); have B2 := Lib.hid hb2; have X2 := Lib.hid hx2; clear hg2 hx2 hb2)
    | ((with_reducible refine gate_dst (N := 4) rfl ?_); refine box_event ?hg (N := 4) ?hd (cs := #[.int .i64 0, .int .i64 0, .int .i64 0]) (t := 27) ?hr ?_; (case hd => rfl); (case hg => rfl); (case hr => first | (go_simp; done) | (go_simp; rfl)); intro g4 hg4 w4 hx4 hb4; have G4 := Lib.hid (show w.heap.size ≤ g4 by rw [hg4]; exact B2.out.size); have B4 := Lib.hid (below_step B2.out hb4); have N24 := Lib.hid (show g2 ≠ g4 by rw [hg4]; have := blk_lt X2.out; omega); have X24 := Lib.hid (blk_below X2.out hb4); have y0 := (blk_cell hx4 0).trans rfl; have y1 := (blk_cell hx4 1).trans rfl; have y2 := (blk_cell hx4 2).trans rfl; have z0 := blk_frozen hx4 0; have z1 := blk_frozen hx4 1; have z2 := blk_frozen hx4 2; clear hg4 hx4 hb4)
    | ((with_reducible refine gate_dst (N := 6) rfl ?_); refine box_event ?hg (N := 6) ?hd (cs := #[.int .i64 0, .int .i64 0, .int .i64 0, .pointer none]) (t := 60) ?hr ?_; (case hd => rfl); (case hg => rfl); (case hr => first | (go_simp; done) | (go_simp; rfl)); intro g6 hg6 w6 hx6 hb6; have B5 := Lib.hid (below_set (below_set (below_set B4.out G4.out (j := 0) (v := .int .i64 0)) G4.out (j := 1) (v := .int .i64 0)) G4.out (j := 2) (v := .int .i64 0)); have G6 := Lib.hid (show w.heap.size ≤ g6 by rw [hg6]; exact B5.out.size); have B6 := Lib.hid (below_step B5.out hb6); have X25 := Lib.hid (blk_far (blk_far (blk_far X24.out N24.out (p := ⟨g4, 0, none⟩) (.int .i64 0)) N24.out (p := ⟨g4, 1, none⟩) (.int .i64 0)) N24.out (p := ⟨g4, 2, none⟩) (.int .i64 0)); have N26 := Lib.hid (show g2 ≠ g6 by rw [hg6]; have := blk_lt X25.out; omega); have X26 := Lib.hid (blk_below X25.out hb6); have X6 := Lib.hid hx6; clear y0 y1 y2 z0 z1 z2; have y0 := (blk_cell hx6 0).trans rfl; have y1 := (blk_cell hx6 1).trans rfl; have y2 := (blk_cell hx6 2).trans rfl; have y3 := (blk_cell hx6 3).trans rfl; have z0 := blk_frozen hx6 0; have z1 := blk_frozen hx6 1; have z2 := blk_frozen hx6 2; have z3 := blk_frozen hx6 3; clear hg6 hx6 hb6))
  refine gen2 (φ := fun W => Code.wp _ _ _ _ W) (P := fun W => Below w.heap.size w W ∧ W.heap[g2]? = some (.cells (ldCells zU) 23 (0, 0)) ∧ W.heap[g6]? = some (.cells #[.int .i64 d, .int .i64 m, .int .i64 l, .pointer p] 60 (0, 0)))
    ⟨below_set (below_set (below_set (below_set B6.out G6.out) G6.out) G6.out) G6.out, blk_far (blk_far (blk_far (blk_far X26.out N26.out _) N26.out _) N26.out _) N26.out _, by simpa using blk_set (blk_set (blk_set (blk_set X6.out 0 (.int .i64 d)) 1 (.int .i64 m)) 2 (.int .i64 l)) 3 (.pointer p)⟩ ?_
  rintro W ⟨hbW, hx2W, hx6W⟩
  clear y0 y1 y2 y3 z0 z1 z2 z3 X6 X26 X25 X24 X2 B6 B5 B4 B2 G4 N24 G6
  have QS := Lib.hid (show P6 w g2 g6 d m l p W from ⟨blk_cell hx6W 0, blk_cell hx6W 1, blk_cell hx6W 2, blk_cell hx6W 3, hbW, ⟨⟨_, _, _, _, _, hx2W⟩⟩⟩)
  have NE := Lib.hid (fun e : g6 = g2 => N26.out e.symm)
  clear hbW hx2W hx6W N26
  go_region_held3 (fun w' => P6 w g2 g6 d m l p w')
    (first | (with_reducible assumption) | (with_reducible exact HS1.out) | (with_reducible exact P6.set1 (P6.set1 (P6.set1 (P6.set1 (P6.set1 HS1.out G2.out NE.out _ _) G2.out NE.out _ _) G2.out NE.out _ _) G2.out NE.out _ _) G2.out NE.out _ _) | exact QS.out.next (by (with_reducible repeat (first | exact Below.refl _ _ | apply pw_below_drewN | apply Below.drew))))
    (first
      | (go_at_call 29; (refine (text_rp (p := p) (s := s) ?ca).mono ?_); (case ca => exact RP.out.below (P6.b (w0 := w) (g2 := g2) (g := g6) (d := d) (m := m) (l := l) (p := p) (by assumption))); rintro e w5 ⟨rfl, hb5⟩; have HS1 := Lib.hid (P6.next (w0 := w) (g2 := g2) (g := g6) (d := d) (m := m) (l := l) (p := p) (by assumption) hb5); obtain ⟨u0, u1, u2, u3, u4, hx5⟩ := HS1.out.2.2.2.2.2.out; have y0 := (blk_cell hx5 0).trans rfl; have y1 := (blk_cell hx5 1).trans rfl; have y2 := (blk_cell hx5 2).trans rfl; have y3 := (blk_cell hx5 3).trans rfl; have y4 := (blk_cell hx5 4).trans rfl; have z0 := blk_frozen hx5 0; have z1 := blk_frozen hx5 1; have z2 := blk_frozen hx5 2; have z3 := blk_frozen hx5 3; have z4 := blk_frozen hx5 4; have X5 := Lib.hid hx5; clear hb5 hx5))
  all_goals
    go_wp2
    refine bodyPost_ret (results_ct rfl _ _ g2 23 (ldCells ⟨2, d, m, l, s⟩) (0, 0) _ rfl (by simpa using blk_set (blk_set (blk_set (blk_set (blk_set X5.out 0 (.int .i64 2)) 1 (.int .i64 d)) 2 (.int .i64 m)) 3 (.int .i64 l)) 4 (.string s)) Tryd.underlying23 rfl (by kernel_rfl)) rfl ?_
    exact ⟨rfl, below_set (below_set (below_set (below_set (below_set HS1.out.b G2.out) G2.out) G2.out) G2.out) G2.out⟩
end Go.Proofs.YthkihkkmoknbjaaDoor.Undo
/- The walk of the law UndoDepth: it answers true. Conditions: the sizes that every row has; Go's two tables of utf8 as they are laid. -/
namespace Go.Proofs.YthkihkkmoknbjaaDoor.Undo
open Go.RowKit Go.Proofs.YthkihkkmoknbjaaDoorW.PrintWords Go.Proofs.YthkihkkmoknbjaaDoorW.PrintLast Go.Proofs.YthkihkkmoknbjaaDoorW.PrintMore Go.Proofs.YthkihkkmoknbjaaDoor.Rope Go.Proofs.YthkihkkmoknbjaaDoor.PUndoFinds
set_option linter.unusedVariables false
set_option linter.unusedSimpArgs false
attribute [local go_sem] max2_int min2_int max_two min_two
/-- What the stack holds behind i pushes, d deep. -/
def stk (xs : List U) (d i : Nat) : List Th := ((xs.take i).drop (i - d)).map thOf
theorem stk_len (xs : List U) (d i : Nat) (hi : i ≤ xs.length) : (stk xs d i).length = min i d := by
  unfold stk; rw [List.length_map, List.length_drop, List.length_take]; omega
theorem stk_next {xs : List U} {d i : Nat} {x : U} (hx : xs[i]? = some x) (hd : 1 ≤ d) (hi : i < xs.length) : pushT (stk xs d i) (thOf x) (d : Int) = stk xs d (i + 1) ∧ (pushO (stk xs d i) (thOf x) (d : Int) = none ↔ i < d) := by
  have hl := stk_len xs d i (by omega)
  have hm : max (d : Int) 1 = (d : Int) := by omega
  have ha : stk xs d i ++ [thOf x] = ((xs.take (i + 1)).drop (i - d)).map thOf := by
    unfold stk
    rw [List.take_add_one, hx, List.drop_append]
    have e : i - d - (xs.take i).length = 0 := by rw [List.length_take]; omega
    rw [e, List.drop_zero, List.map_append]
    rfl
  by_cases hb : i < d
  · have hc : ¬ max (d : Int) 1 < (((stk xs d i).length + 1 : Nat) : Int) := by rw [hl, hm]; omega
    have e0 : i - d = 0 := by omega
    have e1 : i + 1 - d = 0 := by omega
    constructor
    · unfold pushT
      rw [if_neg hc, ha]
      unfold stk
      rw [e0, e1]
    · unfold pushO
      rw [if_neg hc]
      simp [hb]
  · have hc : max (d : Int) 1 < (((stk xs d i).length + 1 : Nat) : Int) := by rw [hl, hm]; omega
    have e1 : i + 1 - d = i - d + 1 := by omega
    constructor
    · unfold pushT
      rw [if_pos hc, ha]
      unfold stk
      rw [← List.map_drop, List.drop_drop, e1]
    · unfold pushO
      rw [if_pos hc]
      rw [List.getElem?_eq_getElem (by simp)]
      simp [hb]
theorem cut_at {w : World} {A : Option Addr} {c : Nat} {xs : List U} (hr : Kd.C k23 w A xs.length xs) (hc : xs.length ≤ c) (m : Nat) (hm : m ≤ xs.length) :
    ∃ A' c', (∀ W, (Instr.slice 30 (.slice A xs.length c) (some (.int .i64 (m : Int))) none none).run Tryd.prog W = .ok (.slice A' (xs.drop m).length c') W) ∧ Kd.C k23 w A' (xs.drop m).length (xs.drop m) ∧ (xs.drop m).length ≤ c' := by
  obtain ⟨i, hi, hs⟩ : ∃ i, Tryd.prog.info? 23 = some i ∧ i.size = 5 := by
    obtain ⟨i, h1, h2⟩ := Option.map_eq_some_iff.1 info23
    simp only [Prod.mk.injEq] at h2
    exact ⟨i, h1, h2.2.1⟩
  refine ⟨if c = m then A else A.map (·.add (m * 5)), c - m, fun W => ?_, ?_, by rw [List.length_drop]; omega⟩
  · have := cut_from (P := Tryd.prog) 30 23 .i64 Tryd.underlying30 hi 5 hs A xs.length c (m : Int) (by omega) (by omega) W
    rw [Int.toNat_natCast] at this
    rw [this, List.length_drop]
  · exact Kd.C_drop hr hm hc
end Go.Proofs.YthkihkkmoknbjaaDoor.Undo
