/- Undo's things: an insertion; a deletion and its text. What it is for a value to be one; their marks, documents, labels. -/
import Derived.Test.YthkihkkmoknbjaaDoorGB
import Derived.Test.YthkihkkmoknbjaaDoorPUndoFindsx0
import Derived.Test.YthkihkkmoknbjaaDoorPUndoFindsx1
import Derived.Test.YthkihkkmoknbjaaDoorPUndoFindsx2
import Derived.Test.YthkihkkmoknbjaaDoorPUndoFindsx3
import Derived.Test.YthkihkkmoknbjaaDoorPUndoFindsx4
import Derived.Test.YthkihkkmoknbjaaDoorPl
namespace Go.Proofs.YthkihkkmoknbjaaDoor.Undo
open Go.RowKit Go.Proofs.YthkihkkmoknbjaaDoorW.PrintWords Go.Proofs.YthkihkkmoknbjaaDoorW.PrintLast Go.Proofs.YthkihkkmoknbjaaDoorW.PrintMore Go.Proofs.YthkihkkmoknbjaaDoor.Rope
set_option linter.unusedVariables false
set_option linter.unusedSimpArgs false
inductive Th where
  | put (d m l : Int)
  | took (d m l : Int) (s : ByteArray)
namespace Th
def doc : Th → Int
  | put d _ _ => d
  | took d _ _ _ => d
def mark : Th → Int
  | put _ m _ => m
  | took _ m _ _ => m
def label : Th → Int
  | put _ _ l => l
  | took _ _ l _ => l
end Th
/-- v is the thing t. -/
def ThR (w : World) (v : Value) : Th → Prop
  | .put d m l => v = .iface 27 (.agg #[.int .i64 d, .int .i64 m, .int .i64 l])
  | .took d m l s => ∃ p, Rp w p s ∧ v = .iface 60 (.agg #[.int .i64 d, .int .i64 m, .int .i64 l, .pointer p])
theorem ThR.below {w w1 : World} {v : Value} {t : Th} (h : ThR w v t) (hb : Below w.heap.size w w1) : ThR w1 v t := by
  cases t with
  | put d m l => exact h
  | took d m l s => obtain ⟨p, h, e⟩ := h; exact ⟨p, h.below hb, e⟩
theorem ThR.move {w w1 : World} (hm : ∀ (g : Nat) (cs : Array Value), w.heap[g]? = some (.cells cs 84 (0, 0)) → w1.heap[g]? = w.heap[g]?) {v : Value} {t : Th} (h : ThR w v t) : ThR w1 v t := by
  cases t with
  | put d m l => exact h
  | took d m l s => obtain ⟨p, h, e⟩ := h; exact ⟨p, h.move hm, e⟩
end Go.Proofs.YthkihkkmoknbjaaDoor.Undo
/- The walk of undo.Mark. -/
namespace Go.Proofs.YthkihkkmoknbjaaDoor.Undo
open Go.RowKit Go.Proofs.YthkihkkmoknbjaaDoorW.PrintWords Go.Proofs.YthkihkkmoknbjaaDoorW.PrintLast Go.Proofs.YthkihkkmoknbjaaDoorW.PrintMore Go.Proofs.YthkihkkmoknbjaaDoor.Rope
@[go_sem] theorem as_pp (v : Value) (w : World) : (Instr.typeAssert (.iface 27 v) 20 27 true).run Tryd.prog w = .ok (.tuple #[v, .bool true]) w := by kernel_rfl
@[go_sem] theorem as_tt (v : Value) (w : World) : (Instr.typeAssert (.iface 60 v) 20 60 true).run Tryd.prog w = .ok (.tuple #[v, .bool true]) w := by kernel_rfl
@[go_sem] theorem as_tp (v : Value) (w : World) : (Instr.typeAssert (.iface 60 v) 20 27 true).run Tryd.prog w = .ok (.tuple #[.agg #[.int .i64 0, .int .i64 0, .int .i64 0], .bool false]) w := by kernel_rfl
@[go_sem] theorem as_pt (v : Value) (w : World) : (Instr.typeAssert (.iface 27 v) 20 60 true).run Tryd.prog w = .ok (.tuple #[.agg #[.int .i64 0, .int .i64 0, .int .i64 0, .pointer none], .bool false]) w := by kernel_rfl
@[go_sem] theorem as_t (v : Value) (w : World) : (Instr.typeAssert (.iface 60 v) 20 60 false).run Tryd.prog w = .ok v w := by kernel_rfl
set_option maxRecDepth 1000000 in
theorem mark_calls (t : Th) (v : Value) (w : World) (h : ThR w v t) : Calls Tryd.prog 8 #[v] w fun e w' => e = .returned (.tuple #[.int .i64 t.mark, .bool true]) ∧ Below w.heap.size w w' := by
  cases t with
  | put d m l =>
    have e : v = _ := h
    subst e
    go_enter Tryd.func8, Tryd.ntmps8
    go_wp2
    go_ret2
    exact ⟨rfl, below_alloc (Below.refl _ _) _⟩
  | took d m l s =>
    obtain ⟨p, hp, rfl⟩ := h
    have HP := Lib.hid hp
    clear hp
    go_enter Tryd.func8, Tryd.ntmps8
    go_wp2
    go_ret2
    refine ⟨rfl, ?_⟩
    repeat (first | exact Below.refl _ _ | apply below_alloc | apply Below.alloc)
@[go_sem] theorem fd_t0 (a b c e : Value) (w : World) : (Instr.field 60 (.agg #[a, b, c, e]) 0).run Tryd.prog w = .ok a w := by kernel_rfl
@[go_sem] theorem fd_t3 (a b c e : Value) (w : World) : (Instr.field 60 (.agg #[a, b, c, e]) 3).run Tryd.prog w = .ok e w := by kernel_rfl
set_option maxRecDepth 1000000 in
theorem doc_calls (t : Th) (v : Value) (w : World) (h : ThR w v t) : Calls Tryd.prog 30 #[v] w fun e w' => e = .returned (.int .i64 t.doc) ∧ Below w.heap.size w w' := by
  cases t with
  | put d m l =>
    have e : v = _ := h
    subst e
    go_enter Tryd.func30, Tryd.ntmps30
    go_wp2
    go_ret
    refine ⟨rfl, ?_⟩
    repeat (first | exact Below.refl _ _ | apply below_alloc | apply Below.alloc)
  | took d m l s =>
    obtain ⟨p, hp, rfl⟩ := h
    have HP := Lib.hid hp
    clear hp
    go_enter Tryd.func30, Tryd.ntmps30
    go_wp2
    go_ret
    refine ⟨rfl, ?_⟩
    repeat (first | exact Below.refl _ _ | apply below_alloc | apply Below.alloc)
set_option maxRecDepth 1000000 in
theorem label_calls (t : Th) (v : Value) (w : World) (h : ThR w v t) : Calls Tryd.prog 12 #[v] w fun e w' => e = .returned (.int .i64 t.label) ∧ Below w.heap.size w w' := by
  cases t with
  | put d m l =>
    have e : v = _ := h
    subst e
    go_enter Tryd.func12, Tryd.ntmps12
    go_wp2
    go_ret
    refine ⟨rfl, ?_⟩
    repeat (first | exact Below.refl _ _ | apply below_alloc | apply Below.alloc)
  | took d m l s =>
    obtain ⟨p, hp, rfl⟩ := h
    have HP := Lib.hid hp
    clear hp
    go_enter Tryd.func12, Tryd.ntmps12
    go_wp2
    go_ret
    refine ⟨rfl, ?_⟩
    repeat (first | exact Below.refl _ _ | apply below_alloc | apply Below.alloc)
end Go.Proofs.YthkihkkmoknbjaaDoor.Undo
/- Stacks: rows of things. Loading of plain values. -/
namespace Go.Proofs.YthkihkkmoknbjaaDoor.Undo
open Go.RowKit Go.Proofs.YthkihkkmoknbjaaDoorW.PrintWords Go.Proofs.YthkihkkmoknbjaaDoorW.PrintLast Go.Proofs.YthkihkkmoknbjaaDoorW.PrintMore Go.Proofs.YthkihkkmoknbjaaDoor.Rope Go.Proofs.YthkihkkmoknbjaaDoor.PUndoFinds
set_option linter.unusedVariables false
set_option linter.unusedSimpArgs false
abbrev encI (p : TypeId × Value) : Value := .iface p.1 p.2
/-- The values xs are the things ts. -/
def Ths (w : World) (xs : List (TypeId × Value)) (ts : List Th) : Prop := ts.length = xs.length ∧ ∀ (j : Nat) x t, xs[j]? = some x → ts[j]? = some t → ThR w (encI x) t
theorem Ths.below {w w1 : World} {xs : List (TypeId × Value)} {ts : List Th} (h : Ths w xs ts) (hb : Below w.heap.size w w1) : Ths w1 xs ts := ⟨h.1, fun j x t h1 h2 => (h.2 j x t h1 h2).below hb⟩
theorem Ths.move {w w1 : World} (hm : ∀ (g : Nat) (cs : Array Value), w.heap[g]? = some (.cells cs 84 (0, 0)) → w1.heap[g]? = w.heap[g]?) {xs : List (TypeId × Value)} {ts : List Th} (h : Ths w xs ts) : Ths w1 xs ts := ⟨h.1, fun j x t h1 h2 => (h.2 j x t h1 h2).move hm⟩
theorem Ths.snoc {w : World} {xs : List (TypeId × Value)} {ts : List Th} {x : TypeId × Value} {t : Th} (h : Ths w xs ts) (ht : ThR w (encI x) t) : Ths w (xs ++ [x]) (ts ++ [t]) := by
  refine ⟨by simp [h.1], fun j x' t' h1 h2 => ?_⟩
  rcases get_snoc h1 with h1 | ⟨e1, rfl⟩ <;> rcases get_snoc h2 with h2 | ⟨e2, rfl⟩
  · exact h.2 j x' t' h1 h2
  · have := (List.getElem?_eq_some_iff.1 h1).1
    have := h.1
    omega
  · have := (List.getElem?_eq_some_iff.1 h2).1
    have := h.1
    omega
  · exact ht
/-- v is a stack of these things: a row that reads as they. -/
def Stk (w : World) (v : Value) (ts : List Th) : Prop := ∃ A c xs, v = .agg #[.slice A xs.length c] ∧ xs.length ≤ c ∧ Kd.C (Kd.scalar encI (fun _ => rfl)) w A xs.length xs ∧ Ths w xs ts
theorem Stk.below {w w1 : World} {v : Value} {ts : List Th} (h : Stk w v ts) (hb : Below w.heap.size w w1) : Stk w1 v ts := by
  obtain ⟨A, c, xs, e, h1, h2, h3⟩ := h
  exact ⟨A, c, xs, e, h1, Kd.C_below h2 hb, h3.below hb⟩
/-- The thing of plain values. -/
def thOf (x : S23) : Th := if x.f0 = 1 then .put x.f1 x.f2 x.f3 else .took x.f1 x.f2 x.f3 x.f4
/-- May they be loaded? -/
def okU (x : S23) : Prop := Lib.validD x.f4.data.toList = true ∧ (x.f0 = 1 ∧ x.f4.size = 0 ∨ x.f0 = 2)
end Go.Proofs.YthkihkkmoknbjaaDoor.Undo
/- The walk of undo.Load: plain values that may be a stack's are loaded. Conditions: texts of at most 2^40 bytes each; Go's two tables of utf8 as they are laid. -/
namespace Go.Proofs.YthkihkkmoknbjaaDoor.Undo
open Go.RowKit Go.Proofs.YthkihkkmoknbjaaDoorW.PrintWords Go.Proofs.YthkihkkmoknbjaaDoorW.PrintLast Go.Proofs.YthkihkkmoknbjaaDoorW.PrintMore Go.Proofs.YthkihkkmoknbjaaDoor.Rope Go.Proofs.YthkihkkmoknbjaaDoor.PUndoFinds
set_option linter.unusedVariables false
set_option linter.unusedSimpArgs false
theorem rp_nil {w : World} {p : Option Addr} {s : ByteArray} (h : Rp w p s) : p = none ↔ s.size = 0 := by
  obtain ⟨t, cs, hi, hs⟩ := h
  have hb : bytesO t = s.size := by rw [hi.g.bytes, ← hs, toList_size]
  constructor
  · rintro rfl
    cases t with
    | none => exact hb.symm
    | some t => obtain ⟨b, e, _⟩ := hi.r; cases e
  · intro h0
    cases t with
    | none => have e : Value.pointer p = .pointer none := hi.r; injection e
    | some t =>
      have := t.h_lt hi.g.ne
      have e : bytesO (some t) = t.bytes := rfl
      omega
theorem new_rp (s : ByteArray) (w : World) (hs : s.size ≤ 1099511627776) (hT : Tabs w) (hv : Lib.validD s.data.toList = true) :
    Calls Tryd.prog 26 #[.string s] w fun e w' => ∃ p, e = .returned (.tuple #[.pointer p, .bool true]) ∧ Rp w' p s ∧ Below w.heap.size w w' := by
  obtain ⟨cs, hl, h⟩ := (validD_iff _).1 hv
  refine (new_calls s w hs hT hl h).mono ?_
  rintro e w' ⟨v, rfl, hi, hb⟩
  obtain ⟨b, rfl, hr⟩ := hi.rp h
  exact ⟨b, rfl, hr, hb⟩
theorem info_any : (Tryd.prog.info? 20).map (fun i => (i.zero, i.size, i.bytes)) = some (some .nilIface, 1, 16) := by kernel_rfl
/-- What holds all along Load: its two boxes, the row of things. -/
structure LdS (w : World) (k0 k : Nat) (v : Value) (ys : List (TypeId × Value)) (ts : List Th) (W : World) : Prop where
  b0 : W.heap[k0]? = some (.cells #[.slice none 0 0] 38 (0, 0))
  b1 : W.heap[k]? = some (.cells #[v] 38 (0, 0))
  row : OwnE encI 20 W w.heap.size v ys
  ths : Ths W ys ts
  below : Below w.heap.size w W
theorem LdS.next {w W W' : World} {k0 k : Nat} {v : Value} {ys : List (TypeId × Value)} {ts : List Th} (h : LdS w k0 k v ys ts W) (hb : Below W.heap.size W W') : LdS w k0 k v ys ts W' :=
  ⟨blk_below h.b0 hb, blk_below h.b1 hb, h.row.below hb, h.ths.below hb, below_step h.below hb⟩
theorem set_type {W : World} {k : Nat} {cs0 : Array Value} {t0 : TypeId} (hk : W.heap[k]? = some (.cells cs0 t0 (0, 0))) {t : TypeId} (ht : t ≠ t0) (j : Nat) (u : Value) : ∀ (g : Nat) (cs : Array Value), W.heap[g]? = some (.cells cs t (0, 0)) → (W.setCell ⟨k, j, none⟩ u).heap[g]? = W.heap[g]? := by
  intro g cs hc
  exact Below.heap_setCell W ⟨k, j, none⟩ u g (blk_ne hc hk ht)
/-- A thing more. -/
theorem LdS.more {w W W' : World} {k0 k : Nat} {v v' : Value} {ys : List (TypeId × Value)} {ts : List Th} {y : TypeId × Value} {t : Th} (h : LdS w k0 k v ys ts W) (ht : ThR W (encI y) t)
    (ho : OwnE encI 20 W' w.heap.size v' (ys ++ [y])) (hg : W.grownBy W' v.ownBlock) (hb : Below w.heap.size w W') (hk : w.heap.size ≤ k) (hkk : k0 ≠ k) : LdS w k0 k v' (ys ++ [y]) (ts ++ [t]) (W'.setCell ⟨k, 0, none⟩ v') := by
  have b0 : W'.heap[k0]? = _ := (h.row.grown hg (t := 38) (by decide) _ _ h.b0).trans h.b0
  have b1 : W'.heap[k]? = _ := (h.row.grown hg (t := 38) (by decide) _ _ h.b1).trans h.b1
  refine ⟨blk_far b0 hkk _, blk_put b1 0 _ rfl, ho.move (set_type b1 (by decide) _ _), ?_, below_set hb hk⟩
  exact ((h.ths.snoc ht).move (h.row.grown hg (t := 84) (by decide))).move (set_type b1 (by decide) _ _)
theorem own_slice1 {α : Type} {enc : α → Value} {e : TypeId} {W : World} {base : Nat} {v : Value} {ys : List α} {y : α} (h : OwnE enc e W base v (ys ++ [y])) : ∃ A c, v = .slice A (ys.length + 1) c := by
  obtain ⟨h1, h2 | ⟨g, cap, cur, e1, _⟩⟩ := h
  · have := h2.2; simp at this
  · exact ⟨some ⟨g, 0, none⟩, cap, by rw [e1]; simp⟩
theorem own_slice0 {α : Type} {enc : α → Value} {e : TypeId} {W : World} {base : Nat} {v : Value} {ys : List α} (h : OwnE enc e W base v ys) : ∃ A c, v = .slice A ys.length c := by
  obtain ⟨h1, h2 | ⟨g, cap, cur, e1, _⟩⟩ := h
  · exact ⟨none, 0, by rw [h2.1, h2.2]⟩
  · exact ⟨some ⟨g, 0, none⟩, cap, e1⟩
/-- What Load leaves. -/
def RetLoad (xs : List S23) (w : World) (e : Ending) (w' : World) : Prop :=
  ∃ v b, e = .returned (.tuple #[v, .bool b]) ∧ (b = true → (∀ x ∈ xs, okU x) ∧ Stk w' v (xs.map thOf)) ∧ (b = false → (¬ ∀ x ∈ xs, okU x) ∧ v = .agg #[.slice none 0 0]) ∧ Below w.heap.size w w'
theorem own_stk {W : World} {base : Nat} {v : Value} {ys : List (TypeId × Value)} {ts : List Th} (h : OwnE encI 20 W base v ys) (ht : Ths W ys ts) : Stk W (.agg #[v]) ts := by
  obtain ⟨A, c, e, h1, h2⟩ := Kd.R_reads (Kd.R_of_own (h1 := fun _ => rfl) (ok := fun _ => True) h (fun _ _ => trivial))
  subst e
  exact ⟨A, c, ys, rfl, h1, h2, ht⟩
theorem loaded {xs : List S23} {w W : World} {v : Value} {ys : List (TypeId × Value)} {k0 k : Nat} (h : LdS w k0 k v ys (xs.map thOf) W) (hok : ∀ x ∈ xs, okU x) (hk0 : w.heap.size ≤ k0) (hkk : k ≠ k0) :
    RetLoad xs w (.returned (.tuple #[.agg #[v], .bool true])) (W.setCell ⟨k0, 0, none⟩ v) := by
  refine ⟨_, true, rfl, fun _ => ⟨hok, ?_⟩, (fun e => by cases e), below_set h.below hk0⟩
  exact own_stk (h.row.move (set_type h.b0 (by decide) _ _)) (h.ths.move (set_type h.b0 (by decide) _ _))
theorem refused {xs : List S23} {w W : World} {x : S23} {n : Nat} (hx : xs[n]? = some x) (hn : ¬ okU x) (hb : Below w.heap.size w W) : RetLoad xs w (.returned (.tuple #[.agg #[.slice none 0 0], .bool false])) W :=
  ⟨_, false, rfl, (fun e => by cases e), fun _ => ⟨fun h => hn (h x (List.mem_of_getElem? hx)), rfl⟩, hb⟩
theorem take_more {xs : List S23} {n : Nat} {x : S23} (hx : xs[n]? = some x) : xs.take (n + 1) = xs.take n ++ [x] := by
  rw [List.take_add_one, hx]; rfl
theorem take_ok {xs : List S23} {n : Nat} {x : S23} (hx : xs[n]? = some x) (h : ∀ y ∈ xs.take n, okU y) (ho : okU x) : ∀ y ∈ xs.take (n + 1), okU y := by
  intro y hy
  rw [take_more hx] at hy
  rcases List.mem_append.1 hy with hy | hy
  · exact h y hy
  · rw [List.mem_singleton.1 hy]; exact ho
end Go.Proofs.YthkihkkmoknbjaaDoor.Undo
/- The walk of undo.Load. Conditions: texts of at most 2^40 bytes each, at most 2^40 things; Go's two tables of utf8 as they are laid. -/
namespace Go.Proofs.YthkihkkmoknbjaaDoor.Undo
open Go.RowKit Go.Proofs.YthkihkkmoknbjaaDoorW.PrintWords Go.Proofs.YthkihkkmoknbjaaDoorW.PrintLast Go.Proofs.YthkihkkmoknbjaaDoorW.PrintMore Go.Proofs.YthkihkkmoknbjaaDoor.Rope Go.Proofs.YthkihkkmoknbjaaDoor.PUndoFinds
set_option linter.unusedVariables false
set_option linter.unusedSimpArgs false
def cnt : Value → Nat
  | .int _ z => z.toNat
  | _ => 0
theorem gen2 {φ P : World → Prop} {w : World} (h : P w) (k : ∀ W, P W → φ W) : φ w := k w h
theorem at_U {w : World} {A : Option Addr} {n : Nat} {xs : List S23} (h : Kd.C k23 w A n xs) {j : Nat} {x : S23} (hx : xs[j]? = some x) (hj : j < n) :
    ∃ ad, A = some ad ∧ w.cell? (ad.add (j * 5)) = some (.int .i64 x.f0) ∧ w.cell? ⟨(ad.add (j * 5)).block, (ad.add (j * 5)).off + 1, none⟩ = some (.int .i64 x.f1) ∧ w.cell? ⟨(ad.add (j * 5)).block, (ad.add (j * 5)).off + 2, none⟩ = some (.int .i64 x.f2) ∧ w.cell? ⟨(ad.add (j * 5)).block, (ad.add (j * 5)).off + 3, none⟩ = some (.int .i64 x.f3) ∧ w.cell? ⟨(ad.add (j * 5)).block, (ad.add (j * 5)).off + 4, none⟩ = some (.string x.f4) := by
  have k := at_T23 h (j : Int) (by omega) (by omega)
  have e : rd_T23 xs (j : Int) = x := by unfold rd_T23; rw [Int.toNat_natCast, List.getD_eq_getElem?_getD, hx]; rfl
  rw [e, Int.toNat_natCast] at k
  exact k
abbrev ldCells (x : S23) : Array Value := #[.int .i64 x.f0, .int .i64 x.f1, .int .i64 x.f2, .int .i64 x.f3, .string x.f4]
set_option maxRecDepth 1000000 in
set_option maxHeartbeats 4000000 in
theorem load_calls (A : Option Addr) (c : Nat) (xs : List S23) (w : World) (hT : Tabs w) (hr : Kd.C k23 w A xs.length xs) (hz : ∀ x ∈ xs, x.f4.size ≤ 1099511627776) (hl : xs.length ≤ 1099511627776) :
    Calls Tryd.prog 14 #[.slice A xs.length c] w (RetLoad xs w) := by
  have HT := Lib.hid hT
  have HRA := Lib.hid hr
  have HZ := Lib.hid hz
  clear hT hr hz
  go_enter Tryd.func14, Tryd.ntmps14
  go_wp2_with fail
  have HS0 := Lib.hid (show LdS w w.heap.size (w.heap.size + 1) (.slice none 0 0) [] [] ((w.alloc (.cells #[.slice none 0 0] 38)).alloc (.cells #[.slice none 0 0] 38)) from
    ⟨blk_alloc (blk_new w _) _, by have := blk_new (w.alloc (.cells #[.slice none 0 0] 38)) (.cells #[.slice none 0 0] 38); simpa using this, ⟨rfl, .inl ⟨rfl, rfl⟩⟩, ⟨rfl, fun j x t h => by simp at h⟩, below_alloc (below_alloc (Below.refl _ _) _) _⟩)
  go_loopw [11] (fun u wr => ∃ (n : Nat) (v : Value) (ys : List (TypeId × Value)), u = .int .i64 (n : Int) ∧ n ≤ xs.length ∧ Hid (∀ x ∈ xs.take n, okU x) ∧ Hid (LdS w w.heap.size (w.heap.size + 1) v ys ((xs.take n).map thOf) wr)) (fun u _ => xs.length - cnt u)
  case atStart => exact ⟨0, _, _, rfl, by omega, Lib.hid (fun x hx => by simp at hx), HS0⟩
  case round =>
    clear HS0
    obtain ⟨n, v, ys, rfl, hn, HOK, HST⟩ := hrel
    by_cases hlt : n < xs.length
    · have d1 : decide ((n : Int) < (xs.length : Int)) = true := by simp; omega
      obtain ⟨x, hx⟩ : ∃ x, xs[n]? = some x := ⟨_, List.getElem?_eq_getElem hlt⟩
      obtain ⟨ad, ea, hx0, hx1, hx2, hx3, hx4⟩ := at_U HRA.out hx hlt
      subst ea
      have hB := HST.out.below
      replace hx0 := pw_cell_below hB hx0
      replace hx1 := pw_cell_below hB hx1
      replace hx2 := pw_cell_below hB hx2
      replace hx3 := pw_cell_below hB hx3
      replace hx4 := pw_cell_below hB hx4
      have HX := Lib.hid hx
      have hzx := HZ.out x (List.mem_of_getElem? hx)
      have hyl : ys.length = n := by have := HST.out.ths.1; simp at this; omega
      have HYL := Lib.hid hyl
      clear hB hx hyl
      have b1 : (0 : Int) ≤ (n : Int) := by omega
      have b2 : (n : Int) < (xs.length : Int) := by omega
      go_upto_region 5 with (first | ((with_reducible refine gate_dst (N := 6) rfl ?_); refine box_event ?hg (N := 6) ?hd (cs := #[.int .i64 0, .int .i64 0, .int .i64 0, .int .i64 0, .string ByteArray.empty]) (t := 23) ?hr ?_; (case hd => rfl); (case hg => rfl); (case hr => first | (go_simp; done) | (go_simp; rfl)); intro gA hgA wA hboxA hbA; have GA := Lib.hid hgA; have BA := Lib.hid hbA; have XA := Lib.hid hboxA; have y0 := (blk_cell hboxA 0).trans rfl; have y1 := (blk_cell hboxA 1).trans rfl; have y2 := (blk_cell hboxA 2).trans rfl; have y3 := (blk_cell hboxA 3).trans rfl; have y4 := (blk_cell hboxA 4).trans rfl; have z0 := blk_frozen hboxA 0; have z1 := blk_frozen hboxA 1; have z2 := blk_frozen hboxA 2; have z3 := blk_frozen hboxA 3; have z4 := blk_frozen hboxA 4; clear hgA hboxA hbA))
      refine gen2 (φ := fun W => Code.wp _ _ _ _ W) (P := fun W => LdS w w.heap.size (w.heap.size + 1) v ys ((xs.take n).map thOf) W ∧ W.heap[gA]? = some (.cells (ldCells x) 23 (0, 0))) ⟨HST.out.next (below_set (below_set (below_set (below_set (below_set BA.out (by rw [GA.out]; exact Nat.le_refl _)) (by rw [GA.out]; exact Nat.le_refl _)) (by rw [GA.out]; exact Nat.le_refl _)) (by rw [GA.out]; exact Nat.le_refl _)) (by rw [GA.out]; exact Nat.le_refl _)), by simpa using blk_set (blk_set (blk_set (blk_set (blk_set XA.out 0 (.int .i64 x.f0)) 1 (.int .i64 x.f1)) 2 (.int .i64 x.f2)) 3 (.int .i64 x.f3)) 4 (.string x.f4)⟩ ?_
      rintro W ⟨hstW, hbxW⟩
      clear hx0 hx1 hx2 hx3 hx4 y0 y1 y2 y3 y4 z0 z1 z2 z3 z4 HST XA BA GA
      have a4 : W.cell? ⟨gA, 4, none⟩ = some (.string x.f4) := blk_cell hbxW 4
      have SW := Lib.hid hstW
      have BX := Lib.hid hbxW
      clear hstW hbxW
      by_cases hv : Lib.validD x.f4.data.toList = true
      · have HV := Lib.hid hv
        clear hv
        go_wp2_with fail
        (go_at_call 26; refine (new_rp x.f4 _ hzx (HT.out.below SW.out.below) HV.out).mono ?_; rintro e w1 ⟨p, rfl, hr, hb⟩)
        have S1 := Lib.hid (SW.out.next hb)
        have hbx1 : w1.heap[gA]? = some (.cells (ldCells x) 23 (0, 0)) := blk_below BX.out hb
        have RP := Lib.hid hr
        clear SW BX a4 hr hb
        have a0 : w1.cell? ⟨gA, 0, none⟩ = some (.int .i64 x.f0) := blk_cell hbx1 0
        have a1 : w1.cell? ⟨gA, 1, none⟩ = some (.int .i64 x.f1) := blk_cell hbx1 1
        have a2 : w1.cell? ⟨gA, 2, none⟩ = some (.int .i64 x.f2) := blk_cell hbx1 2
        have a3 : w1.cell? ⟨gA, 3, none⟩ = some (.int .i64 x.f3) := blk_cell hbx1 3
        have c0 : w1.cell? ⟨w.heap.size, 0, none⟩ = some (.slice none 0 0) := blk_cell S1.out.b0 0
        have c1 : w1.cell? ⟨w.heap.size + 1, 0, none⟩ = some v := blk_cell S1.out.b1 0
        have f0 := blk_frozen S1.out.b0 0
        clear hbx1
        by_cases hk1 : x.f0 = 1
        · have d2 : (x.f0 == 1) = true := by simp [hk1]
          have d3 : (x.f0 == 2) = false := by simp; omega
          have HK := Lib.hid hk1
          clear hk1
          cases p with
          | none =>
            have h0 := Lib.hid ((rp_nil RP.out).1 rfl)
            have OKX : Hid (okU x) := Lib.hid ⟨HV.out, .inl ⟨HK.out, h0.out⟩⟩
            go_wp2_with (first | ((with_reducible refine gate_builtin (b := .append) rfl ?_); refine print_append_of (w0 := w) encI w.heap.size rfl _ _ 36 20 .nilIface 16 rfl Tryd.underlying36 info_any rfl (by decide) v ys (27, .agg #[.int .i64 x.f1, .int .i64 x.f2, .int .i64 x.f3]) rfl rfl rfl ?h1 ?h2 ?h3 ?h4 ?_; (case h1 => exact S1.out.row); (case h2 => exact S1.out.below); (case h3 => exact S1.out.below.size); (case h4 => have := HYL.out; omega); intro v3 w3 ho3 hb3 hg3 hat3; obtain ⟨A3, c3, e3⟩ := own_slice1 ho3; subst e3; have HO3 := Lib.hid ho3; have HB3 := Lib.hid hb3; have HG3 := Lib.hid hg3; have hk3 : w3.heap[w.heap.size + 1]? = _ := (S1.out.row.grown hg3 (t := 38) (by decide) _ _ S1.out.b1).trans S1.out.b1; have q0 : w3.cell? ⟨w.heap.size + 1, 0, none⟩ = some v := blk_cell hk3 0; have q1 := blk_frozen hk3 0; clear ho3 hb3 hg3 hat3 hk3))
            go_roundw
            case rel =>
              have M := S1.out.more (t := thOf x) (by unfold thOf; rw [if_pos HK.out]; rfl) HO3.out HG3.out HB3.out (by omega) (by omega)
              exact ⟨n + 1, _, _, by go_num, by omega, Lib.hid (take_ok HX.out HOK.out OKX.out), Lib.hid (by rw [take_more HX.out, List.map_append]; exact M)⟩
            case measure =>
              simp only [cnt]
              omega
          | some p =>
            have NO : Hid (¬ okU x) := Lib.hid (fun h => by
              rcases h.2 with h | h
              · have := (rp_nil RP.out).2 h.2; cases this
              · have := HK.out; omega)
            go_wp2
            refine bodyPost_ret (results_ct rfl _ _ w.heap.size 38 #[.slice none 0 0] (0, 0) _ rfl (blk_put S1.out.b0 0 _ rfl) Tryd.underlying38 rfl (by kernel_rfl)) rfl ?_
            exact refused HX.out NO.out (below_set S1.out.below (Nat.le_refl _))
        · have d2 : (x.f0 == 1) = false := by simp; omega
          have HK := Lib.hid hk1
          clear hk1
          by_cases hk2 : x.f0 = 2
          · have d3 : (x.f0 == 2) = true := by simp [hk2]
            have OKX : Hid (okU x) := Lib.hid ⟨HV.out, .inr hk2⟩
            clear hk2
            go_wp2_with (first | ((with_reducible refine gate_builtin (b := .append) rfl ?_); refine print_append_of (w0 := w) encI w.heap.size rfl _ _ 36 20 .nilIface 16 rfl Tryd.underlying36 info_any rfl (by decide) v ys (60, .agg #[.int .i64 x.f1, .int .i64 x.f2, .int .i64 x.f3, .pointer p]) rfl rfl rfl ?h1 ?h2 ?h3 ?h4 ?_; (case h1 => exact S1.out.row); (case h2 => exact S1.out.below); (case h3 => exact S1.out.below.size); (case h4 => have := HYL.out; omega); intro v3 w3 ho3 hb3 hg3 hat3; obtain ⟨A3, c3, e3⟩ := own_slice1 ho3; subst e3; have HO3 := Lib.hid ho3; have HB3 := Lib.hid hb3; have HG3 := Lib.hid hg3; have hk3 : w3.heap[w.heap.size + 1]? = _ := (S1.out.row.grown hg3 (t := 38) (by decide) _ _ S1.out.b1).trans S1.out.b1; have q0 : w3.cell? ⟨w.heap.size + 1, 0, none⟩ = some v := blk_cell hk3 0; have q1 := blk_frozen hk3 0; clear ho3 hb3 hg3 hat3 hk3))
            go_roundw
            case rel =>
              have M := S1.out.more (t := thOf x) (by unfold thOf; rw [if_neg HK.out]; exact ⟨p, RP.out, rfl⟩) HO3.out HG3.out HB3.out (by omega) (by omega)
              exact ⟨n + 1, _, _, by go_num, by omega, Lib.hid (take_ok HX.out HOK.out OKX.out), Lib.hid (by rw [take_more HX.out, List.map_append]; exact M)⟩
            case measure =>
              simp only [cnt]
              omega
          · have d3 : (x.f0 == 2) = false := by simp; omega
            have NO : Hid (¬ okU x) := Lib.hid (fun h => by rcases h.2 with h | h <;> have := HK.out <;> omega)
            clear hk2
            go_wp2
            refine bodyPost_ret (results_ct rfl _ _ w.heap.size 38 #[.slice none 0 0] (0, 0) _ rfl (blk_put S1.out.b0 0 _ rfl) Tryd.underlying38 rfl (by kernel_rfl)) rfl ?_
            exact refused HX.out NO.out (below_set S1.out.below (Nat.le_refl _))
      · have HV := Lib.hid hv
        have hv2 := Lib.hid (Bool.eq_false_iff.2 hv)
        clear hv
        go_wp2_with fail
        (go_at_call 26; refine (new_wrong x.f4 _ hzx (HT.out.below SW.out.below) hv2.out).mono ?_; rintro e w1 ⟨v1, rfl, hr, hb⟩)
        have S1 := Lib.hid (SW.out.next hb)
        have c0 : w1.cell? ⟨w.heap.size, 0, none⟩ = some (.slice none 0 0) := blk_cell S1.out.b0 0
        have f0 := blk_frozen S1.out.b0 0
        have NO : Hid (¬ okU x) := Lib.hid (fun h => HV.out h.1)
        clear SW BX a4 hr hb
        go_wp2
        refine bodyPost_ret (results_ct rfl _ _ w.heap.size 38 #[.slice none 0 0] (0, 0) _ rfl (blk_put S1.out.b0 0 _ rfl) Tryd.underlying38 rfl (by kernel_rfl)) rfl ?_
        exact refused HX.out NO.out (below_set S1.out.below (Nat.le_refl _))
    · have d1 : decide ((n : Int) < (xs.length : Int)) = false := by simp; omega
      obtain ⟨A3, c3, e3⟩ := own_slice0 HST.out.row
      subst e3
      have c0 : wr.cell? ⟨w.heap.size, 0, none⟩ = some (.slice none 0 0) := blk_cell HST.out.b0 0
      have c1 : wr.cell? ⟨w.heap.size + 1, 0, none⟩ = some (.slice A3 ys.length c3) := blk_cell HST.out.b1 0
      have f0 := blk_frozen HST.out.b0 0
      have HN := Lib.hid (show xs.take n = xs from List.take_of_length_le (by omega))
      go_wp2
      refine bodyPost_ret (results_ct rfl _ _ w.heap.size 38 #[.slice A3 ys.length c3] (0, 0) _ rfl (blk_put HST.out.b0 0 _ rfl) Tryd.underlying38 rfl (by kernel_rfl)) rfl ?_
      exact loaded (by have := HST.out; rw [HN.out] at this; exact this) (by have := HOK.out; rw [HN.out] at this; exact this) (Nat.le_refl _) (by omega)
end Go.Proofs.YthkihkkmoknbjaaDoor.Undo
/- The walk of Stack.Plain: a stack as plain values. Conditions: at most 2^40 things. -/
namespace Go.Proofs.YthkihkkmoknbjaaDoor.Undo
open Go.RowKit Go.Proofs.YthkihkkmoknbjaaDoorW.PrintWords Go.Proofs.YthkihkkmoknbjaaDoorW.PrintLast Go.Proofs.YthkihkkmoknbjaaDoorW.PrintMore Go.Proofs.YthkihkkmoknbjaaDoor.Rope Go.Proofs.YthkihkkmoknbjaaDoor.PUndoFinds
set_option linter.unusedVariables false
set_option linter.unusedSimpArgs false
/-- A thing as plain values. -/
def plainTh : Th → S23
  | .put d m l => ⟨1, d, m, l, ⟨#[]⟩⟩
  | .took d m l s => ⟨2, d, m, l, s⟩
theorem text_rp {w : World} {p : Option Addr} {s : ByteArray} (h : Rp w p s) : Calls Tryd.prog 29 #[.pointer p] w fun e w' => e = .returned (.string s) ∧ Below w.heap.size w w' := by
  obtain ⟨t, cs, hi, hs⟩ := h
  exact text_is hi s hs
theorem at_I {w : World} {A : Option Addr} {n : Nat} {xs : List (TypeId × Value)} (h : Kd.C (Kd.scalar encI (fun _ => rfl)) w A n xs) {j : Nat} {x : TypeId × Value} (hx : xs[j]? = some x) (hj : j < n) :
    ∃ ad, A = some ad ∧ w.cell? (ad.add j) = some (encI x) := by
  obtain ⟨ad, c, e, _, hK, hc⟩ := Kd.C_get h x (j : Int) (by omega) (by omega)
  have e2 : xs.getD (j : Int).toNat x = x := by rw [Int.toNat_natCast, List.getD_eq_getElem?_getD, hx]; rfl
  rw [e2] at hK
  have hK' : c = [encI x] := hK
  subst hK'
  have := hc 0 _ rfl
  rw [Int.toNat_natCast] at this
  exact ⟨ad, e, by simpa [Kd.scalar] using this⟩
/-- What Plain leaves. -/
def RetPlain (us : List S23) (w : World) (e : Ending) (w' : World) : Prop := ∃ v, e = .returned v ∧ Kd.R k23 23 w' w.heap.size (fun _ => True) v us ∧ Below w.heap.size w w'
set_option maxRecDepth 1000000 in
set_option maxHeartbeats 4000000 in
theorem plain_calls (v0 : Value) (ts : List Th) (w : World) (h : Stk w v0 ts) (hl : ts.length ≤ 1099511627776) :
    Calls Tryd.prog 15 #[v0] w (RetPlain (ts.map plainTh) w) := by
  obtain ⟨A, c, xs, rfl, hc, hr, ht⟩ := h
  have HR := Lib.hid hr
  have HT := Lib.hid ht
  have HL := Lib.hid (show ts.length = xs.length from ht.1)
  have hl2 : xs.length ≤ 1099511627776 := by have := ht.1; omega
  clear hr ht hl
  go_enter Tryd.func15, Tryd.ntmps15
  go_wp2_with fail
  have HS0 := Lib.hid (show Below w.heap.size w (w.alloc (.cells #[.slice A xs.length c] 38)) from below_alloc (Below.refl _ _) _)
  go_loopw [3, 14] (fun v u wr => ∃ (n : Nat), u = .int .i64 (n : Int) ∧ n ≤ xs.length ∧ Hid (Kd.R k23 23 wr w.heap.size (fun _ => True) v ((ts.take n).map plainTh)) ∧ Hid (Below w.heap.size w wr)) (fun _ u _ => xs.length - cnt u)
  case atStart => exact ⟨0, rfl, by omega, Lib.hid (Kd.R_nil _ _ _ _ _), HS0⟩
  case round =>
    clear HS0
    obtain ⟨n, rfl, hn, HV, HB⟩ := hrel
    by_cases hlt : n < xs.length
    · have d1 : decide ((n : Int) < (xs.length : Int)) = true := by simp; omega
      obtain ⟨x, hx⟩ : ∃ x, xs[n]? = some x := ⟨_, List.getElem?_eq_getElem hlt⟩
      obtain ⟨t, ht⟩ : ∃ t, ts[n]? = some t := ⟨_, List.getElem?_eq_getElem (by rw [HL.out]; exact hlt)⟩
      obtain ⟨ad, ea, hx0⟩ := at_I HR.out hx hlt
      subst ea
      replace hx0 := pw_cell_below HB.out hx0
      have TH := Lib.hid ((HT.out.2 n x t hx ht).below HB.out)
      have HTT := Lib.hid ht
      have HVL := Lib.hid (show ((ts.take n).map plainTh).length = n by have := HL.out; simp; omega)
      clear hx ht
      generalize encI x = vx at hx0 TH
      have b1 : (0 : Int) ≤ (n : Int) := by omega
      have b2 : (n : Int) < (xs.length : Int) := by omega
      go_wp2_with fail
      (go_at_call 8; refine (mark_calls t vx _ TH.out).mono ?_; rintro e w1 ⟨rfl, hb1⟩)
      have B1 := Lib.hid hb1
      clear hb1
      go_wp2_with fail
      (go_at_call 30; refine (doc_calls t vx _ (TH.out.below B1.out)).mono ?_; rintro e w2 ⟨rfl, hb2⟩)
      have B2 := Lib.hid (below_step B1.out hb2)
      clear hb2
      go_wp2_with fail
      (go_at_call 12; refine (label_calls t vx _ (TH.out.below B2.out)).mono ?_; rintro e w3 ⟨rfl, hb3⟩)
      have B3 := Lib.hid (below_step B2.out hb3)
      clear hb3 hx0 B1 B2
      go_upto_region 7 with (first | ((with_reducible refine gate_dst (N := 8) rfl ?_); refine box_event ?hg (N := 8) ?hd (cs := #[.int .i64 0, .int .i64 0, .int .i64 0, .int .i64 0, .string ByteArray.empty]) (t := 23) ?hr ?_; (case hd => rfl); (case hg => rfl); (case hr => first | (go_simp; done) | (go_simp; rfl)); intro gA hgA wA hboxA hbA; have GA := Lib.hid (show wr.heap.size ≤ gA by rw [hgA]; exact B3.out.size); have BA := Lib.hid (below_step B3.out hbA); have XA := Lib.hid hboxA; have y0 := (blk_cell hboxA 0).trans rfl; have y1 := (blk_cell hboxA 1).trans rfl; have y2 := (blk_cell hboxA 2).trans rfl; have y3 := (blk_cell hboxA 3).trans rfl; have y4 := (blk_cell hboxA 4).trans rfl; have z0 := blk_frozen hboxA 0; have z1 := blk_frozen hboxA 1; have z2 := blk_frozen hboxA 2; have z3 := blk_frozen hboxA 3; have z4 := blk_frozen hboxA 4; clear hgA hboxA hbA))
      refine gen2 (φ := fun W => Code.wp _ _ _ _ W) (P := fun W => Below wr.heap.size wr W ∧ W.heap[gA]? = some (.cells (ldCells ⟨1, t.doc, t.mark, t.label, ⟨#[]⟩⟩) 23 (0, 0))) ⟨below_set (below_set (below_set (below_set (below_set BA.out GA.out) GA.out) GA.out) GA.out) GA.out, by simpa using blk_set (blk_set (blk_set (blk_set (blk_set XA.out 0 (.int .i64 1)) 1 (.int .i64 t.doc)) 2 (.int .i64 t.mark)) 3 (.int .i64 t.label)) 4 (.string ⟨#[]⟩)⟩ ?_
      rintro W ⟨hbW, hbxW⟩
      clear y0 y1 y2 y3 y4 z0 z1 z2 z3 z4 B3 XA BA
      have BW := Lib.hid hbW
      have XW := Lib.hid hbxW
      clear hbW hbxW
      cases t with
      | put d m l =>
        have e : vx = _ := TH.out
        subst e
        go_upto_region 8 with (first | ((with_reducible refine gate_dst (N := 9) rfl ?_); refine box_event ?hg (N := 9) ?hd (cs := #[.int .i64 0, .int .i64 0, .int .i64 0, .pointer none]) (t := 60) ?hr ?_; (case hd => rfl); (case hg => rfl); (case hr => first | (go_simp; done) | (go_simp; rfl)); intro gT hgT wT hboxT hbT; have GT := Lib.hid (show wr.heap.size ≤ gT by rw [hgT]; exact BW.out.size); have BT := Lib.hid (below_step BW.out hbT); have XT := Lib.hid hboxT; have XW2 := Lib.hid (blk_below XW.out hbT); have NE := Lib.hid (show gA ≠ gT by rw [hgT]; have := blk_lt XW.out; omega); have y0 := (blk_cell hboxT 0).trans rfl; have y1 := (blk_cell hboxT 1).trans rfl; have y2 := (blk_cell hboxT 2).trans rfl; have y3 := (blk_cell hboxT 3).trans rfl; have z0 := blk_frozen hboxT 0; have z1 := blk_frozen hboxT 1; have z2 := blk_frozen hboxT 2; have z3 := blk_frozen hboxT 3; clear hgT hboxT hbT))
        refine gen2 (φ := fun W => Code.wp _ _ _ _ W) (P := fun W => Below wr.heap.size wr W ∧ W.heap[gA]? = some (.cells (ldCells ⟨1, d, m, l, ⟨#[]⟩⟩) 23 (0, 0))) ⟨below_set (below_set (below_set (below_set BT.out GT.out) GT.out) GT.out) GT.out, blk_far (blk_far (blk_far (blk_far XW2.out NE.out _) NE.out _) NE.out _) NE.out _⟩ ?_
        rintro V ⟨hbV, hbxV⟩
        clear y0 y1 y2 y3 z0 z1 z2 z3 XT BT GT XW BW XW2 NE
        have BV := Lib.hid hbV
        have a0 : V.cell? ⟨gA, 0, none⟩ = some (.int .i64 1) := blk_cell hbxV 0
        have a1 : V.cell? ⟨gA, 1, none⟩ = some (.int .i64 d) := blk_cell hbxV 1
        have a2 : V.cell? ⟨gA, 2, none⟩ = some (.int .i64 m) := blk_cell hbxV 2
        have a3 : V.cell? ⟨gA, 3, none⟩ = some (.int .i64 l) := blk_cell hbxV 3
        have a4 : V.cell? ⟨gA, 4, none⟩ = some (.string ⟨#[]⟩) := blk_cell hbxV 4
        clear hbV hbxV
        go_wp2_with (first | ((with_reducible refine gate_builtin (b := .append) rfl ?_); refine Kd.R_append k23 (w0 := w) w.heap.size rfl _ _ 30 23 (.agg #[(.int .i64 0), (.int .i64 0), (.int .i64 0), (.int .i64 0), (.string ⟨#[]⟩)]) 48 rfl Tryd.underlying30 info23 rfl (by decide) (by decide) _ ((ts.take n).map plainTh) (⟨1, d, m, l, ⟨#[]⟩⟩ : S23) [.int .i64 1, .int .i64 d, .int .i64 m, .int .i64 l, .string ⟨#[]⟩] (fun _ => True) (fun _ => False) rfl rfl ?aP (fun _ hk => hk.elim) (fun _ _ => trivial) ?aO ?aB ?aS ?aL ?_; (case aP => exact k23_mkM _ _ _ (⟨1, d, m, l, ⟨#[]⟩⟩ : S23)); (case aO => exact Kd.R_below HV.out BV.out); (case aB => exact below_step HB.out BV.out); (case aS => exact (below_step HB.out BV.out).size); (case aL => have := HVL.out; omega); intro v3 w3 ho3 hb3 hg3 hat3; have HO3 := Lib.hid ho3; have HB3 := Lib.hid hb3; clear ho3 hb3 hg3 hat3))
        go_roundw
        case rel =>
          refine ⟨n + 1, by go_num, by omega, Lib.hid ?_, HB3⟩
          have e : ts.take (n + 1) = ts.take n ++ [.put d m l] := by rw [List.take_add_one, HTT.out]; rfl
          rw [e, List.map_append]
          exact HO3.out
        case measure =>
          simp only [cnt]
          omega
      | took d m l s =>
        obtain ⟨p, hp, e⟩ := TH.out
        subst e
        have RP := Lib.hid hp
        clear hp
        go_upto_region 8 with (first | ((with_reducible refine gate_dst (N := 9) rfl ?_); refine box_event ?hg (N := 9) ?hd (cs := #[.int .i64 0, .int .i64 0, .int .i64 0, .pointer none]) (t := 60) ?hr ?_; (case hd => rfl); (case hg => rfl); (case hr => first | (go_simp; done) | (go_simp; rfl)); intro gT hgT wT hboxT hbT; have GT := Lib.hid (show wr.heap.size ≤ gT by rw [hgT]; exact BW.out.size); have BT := Lib.hid (below_step BW.out hbT); have XT := Lib.hid hboxT; have XW2 := Lib.hid (blk_below XW.out hbT); have NE := Lib.hid (show gA ≠ gT by rw [hgT]; have := blk_lt XW.out; omega); have y0 := (blk_cell hboxT 0).trans rfl; have y1 := (blk_cell hboxT 1).trans rfl; have y2 := (blk_cell hboxT 2).trans rfl; have y3 := (blk_cell hboxT 3).trans rfl; have z0 := blk_frozen hboxT 0; have z1 := blk_frozen hboxT 1; have z2 := blk_frozen hboxT 2; have z3 := blk_frozen hboxT 3; clear hgT hboxT hbT))
        refine gen2 (φ := fun W => Code.wp _ _ _ _ W) (P := fun W => Below wr.heap.size wr W ∧ W.heap[gA]? = some (.cells (ldCells ⟨1, d, m, l, ⟨#[]⟩⟩) 23 (0, 0)) ∧ W.cell? ⟨gT, 3, none⟩ = some (.pointer p)) ⟨below_set (below_set (below_set (below_set BT.out GT.out) GT.out) GT.out) GT.out, blk_far (blk_far (blk_far (blk_far XW2.out NE.out _) NE.out _) NE.out _) NE.out _, (blk_cell (blk_set (blk_set (blk_set (blk_set XT.out 0 (.int .i64 d)) 1 (.int .i64 m)) 2 (.int .i64 l)) 3 (.pointer p)) 3).trans rfl⟩ ?_
        rintro V ⟨hbV, hbxV, hpV⟩
        clear y0 y1 y2 y3 z0 z1 z2 z3 XT BT GT XW BW XW2 NE
        have BV := Lib.hid hbV
        have XV := Lib.hid hbxV
        clear hbV hbxV
        go_wp2_with fail
        (go_at_call 29; refine (text_rp (RP.out.below BV.out)).mono ?_; rintro e w5 ⟨rfl, hb5⟩)
        have B5 := Lib.hid (below_step BV.out hb5)
        have hbx5 := blk_below XV.out hb5
        have X5 := Lib.hid hbx5
        have y0 := (blk_cell hbx5 0).trans rfl
        have y4 := (blk_cell hbx5 4).trans rfl
        have z0 := blk_frozen hbx5 0
        have z4 := blk_frozen hbx5 4
        clear hb5 hbx5 hpV
        go_upto_region 10 with (fail)
        refine gen2 (φ := fun W => Code.wp _ _ _ _ W) (P := fun W => Below wr.heap.size wr W ∧ W.heap[gA]? = some (.cells (ldCells ⟨2, d, m, l, s⟩) 23 (0, 0))) ⟨below_set (below_set B5.out GA.out) GA.out, by simpa using blk_set (blk_set X5.out 0 (.int .i64 2)) 4 (.string s)⟩ ?_
        rintro U ⟨hbU, hbxU⟩
        clear y0 y4 z0 z4 XV BV X5 B5
        have BU := Lib.hid hbU
        have a0 : U.cell? ⟨gA, 0, none⟩ = some (.int .i64 2) := blk_cell hbxU 0
        have a1 : U.cell? ⟨gA, 1, none⟩ = some (.int .i64 d) := blk_cell hbxU 1
        have a2 : U.cell? ⟨gA, 2, none⟩ = some (.int .i64 m) := blk_cell hbxU 2
        have a3 : U.cell? ⟨gA, 3, none⟩ = some (.int .i64 l) := blk_cell hbxU 3
        have a4 : U.cell? ⟨gA, 4, none⟩ = some (.string s) := blk_cell hbxU 4
        clear hbU hbxU
        go_wp2_with (first | ((with_reducible refine gate_builtin (b := .append) rfl ?_); refine Kd.R_append k23 (w0 := w) w.heap.size rfl _ _ 30 23 (.agg #[(.int .i64 0), (.int .i64 0), (.int .i64 0), (.int .i64 0), (.string ⟨#[]⟩)]) 48 rfl Tryd.underlying30 info23 rfl (by decide) (by decide) _ ((ts.take n).map plainTh) (⟨2, d, m, l, s⟩ : S23) [.int .i64 2, .int .i64 d, .int .i64 m, .int .i64 l, .string s] (fun _ => True) (fun _ => False) rfl rfl ?aP (fun _ hk => hk.elim) (fun _ _ => trivial) ?aO ?aB ?aS ?aL ?_; (case aP => exact k23_mkM _ _ _ (⟨2, d, m, l, s⟩ : S23)); (case aO => exact Kd.R_below HV.out BU.out); (case aB => exact below_step HB.out BU.out); (case aS => exact (below_step HB.out BU.out).size); (case aL => have := HVL.out; omega); intro v3 w3 ho3 hb3 hg3 hat3; have HO3 := Lib.hid ho3; have HB3 := Lib.hid hb3; clear ho3 hb3 hg3 hat3))
        go_roundw
        case rel =>
          refine ⟨n + 1, by go_num, by omega, Lib.hid ?_, HB3⟩
          have e : ts.take (n + 1) = ts.take n ++ [.took d m l s] := by rw [List.take_add_one, HTT.out]; rfl
          rw [e, List.map_append]
          exact HO3.out
        case measure =>
          simp only [cnt]
          omega
    · have d1 : decide ((n : Int) < (xs.length : Int)) = false := by simp; omega
      have HN := Lib.hid (show ts.take n = ts from List.take_of_length_le (by have := HL.out; omega))
      go_wp2
      go_ret
      exact ⟨_, rfl, by have := HV.out; rw [HN.out] at this; exact this, HB.out⟩
end Go.Proofs.YthkihkkmoknbjaaDoor.Undo
/- Plain laws: what the document's small, Right and Same answer of plain values. Conditions: the sizes that every row has. -/
namespace Go.Proofs.YthkihkkmoknbjaaDoor.Undo
open Go.RowKit Go.Proofs.YthkihkkmoknbjaaDoorPl Go.Proofs.YthkihkkmoknbjaaDoorW.PrintWords Go.Proofs.YthkihkkmoknbjaaDoorW.PrintLast Go.Proofs.YthkihkkmoknbjaaDoorW.PrintMore Go.Proofs.YthkihkkmoknbjaaDoor.Rope Go.Proofs.YthkihkkmoknbjaaDoor.PUndoFinds
set_option linter.unusedVariables false
set_option linter.unusedSimpArgs false
abbrev U := S23
theorem rd_at {xs : List U} {j : Nat} {x : U} (hx : xs[j]? = some x) : rd_T23 xs (j : Int) = x := by
  unfold rd_T23; rw [Int.toNat_natCast, List.getD_eq_getElem?_getD, hx]; rfl
theorem small_l0 (xs : List U) (hn : xs.length ≤ 2932031007402) (hz : ∀ x ∈ xs, x.f4.size ≤ 140737488351232) : ∀ (d i : Nat) (n : Int), xs.length - i = d → i ≤ xs.length → 0 ≤ n → n ≤ 2000 →
    ∃ b, Ev (fun k => chancellaw07_small.l0 k xs n xs (xs.length : Int) (i : Int)) b ∧ (b = true → xs.length ≤ 60 ∧ ∀ (j : Nat) x, i ≤ j → xs[j]? = some x → x.f4.size ≤ 2000)
  | 0, i, n, hd, hi, h0, h1 => by
    refine ⟨decide ((xs.length : Int) ≤ 60), ev_next (f := fun _ => some (decide ((xs.length : Int) ≤ 60))) (fun k => by simp only [chancellaw07_small.l0]; rw [if_neg (by omega)]) (Ev.now _), fun h => ?_⟩
    have := of_decide_eq_true h
    refine ⟨by omega, fun j x hj hx => ?_⟩
    have := (List.getElem?_eq_some_iff.1 hx).1
    omega
  | d + 1, i, n, hd, hi, h0, h1 => by
    obtain ⟨x, hx⟩ : ∃ x, xs[i]? = some x := ⟨_, List.getElem?_eq_getElem (by omega)⟩
    have hzx := hz x (List.mem_of_getElem? hx)
    have W1 := Lib.hid (wrap_succ (i := i) (by omega))
    have w2 : wrap64 (n + (x.f4.size : Int)) = n + (x.f4.size : Int) := wrap_id (by omega) (by omega)
    have W2 := Lib.hid w2
    clear w2
    by_cases c : n + (x.f4.size : Int) > 2000
    · refine ⟨false, ev_next (f := fun _ => some false) (fun k => ?_) (Ev.now _), (fun h => by cases h)⟩
      simp only [chancellaw07_small.l0, rd_at hx]
      rw [if_pos (by omega), if_pos (by omega), if_pos (by omega), W2.out, if_pos c]
    · obtain ⟨b, hb, hb2⟩ := small_l0 xs hn hz d (i + 1) (n + (x.f4.size : Int)) (by omega) (by omega) (by omega) (by omega)
      refine ⟨b, ev_next (fun k => ?_) hb, fun h => ⟨(hb2 h).1, fun j y hj hy => ?_⟩⟩
      · simp only [chancellaw07_small.l0, rd_at hx]
        rw [if_pos (by omega), if_pos (by omega), if_pos (by omega), W2.out, if_neg c, W1.out]
      · rcases Nat.eq_or_lt_of_le hj with e | hj
        · subst e
          rw [hx] at hy
          injection hy with hy
          subst hy
          omega
        · exact (hb2 h).2 j y hj hy
theorem small_ev (xs : List U) (hn : xs.length ≤ 2932031007402) (hz : ∀ x ∈ xs, x.f4.size ≤ 140737488351232) :
    ∃ b, Ev (fun k => chancellaw07_small.f k xs) b ∧ (b = true → xs.length ≤ 60 ∧ ∀ x ∈ xs, x.f4.size ≤ 2000) := by
  obtain ⟨b, hb, h⟩ := small_l0 xs hn hz _ 0 0 rfl (by omega) (by omega) (by omega)
  refine ⟨b, hb, fun e => ⟨(h e).1, fun x hx => ?_⟩⟩
  obtain ⟨j, hj⟩ := List.getElem?_of_mem hx
  exact (h e).2 j x (by omega) hj
open Classical in
/-- May they be loaded? As a bool. -/
noncomputable def okB (xs : List U) : Bool := decide (∀ x ∈ xs, okU x)
theorem okB_true {xs : List U} : okB xs = true ↔ ∀ x ∈ xs, okU x := by simp [okB]
theorem okB_false {xs : List U} : okB xs = false ↔ ¬ ∀ x ∈ xs, okU x := by simp [okB]
theorem right_l0 (xs : List U) (hn : xs.length ≤ 2932031007402) (hz : ∀ x ∈ xs, x.f4.size ≤ 1099511627776) : ∀ (d i : Nat), xs.length - i = d → i ≤ xs.length →
    ∃ b, Ev (fun k => chancelref07_Right.l0 k xs (i : Int)) b ∧ (b = true ↔ ∀ (j : Nat) x, i ≤ j → xs[j]? = some x → okU x)
  | 0, i, hd, hi => by
    refine ⟨true, ev_next (f := fun _ => some true) (fun k => by simp only [chancelref07_Right.l0]; rw [if_neg (by omega)]) (Ev.now _), ⟨fun _ j x hj hx => ?_, fun _ => rfl⟩⟩
    have := (List.getElem?_eq_some_iff.1 hx).1
    omega
  | d + 1, i, hd, hi => by
    obtain ⟨x, hx⟩ : ∃ x, xs[i]? = some x := ⟨_, List.getElem?_eq_getElem (by omega)⟩
    have hR := Right_ev x.f4 (hz x (List.mem_of_getElem? hx))
    have W1 := Lib.hid (wrap_succ (i := i) (by omega))
    obtain ⟨b, hb, hb2⟩ := right_l0 xs hn hz d (i + 1) (by omega) (by omega)
    have bad : ¬ okU x → (false = true ↔ ∀ (j : Nat) x, i ≤ j → xs[j]? = some x → okU x) := fun h => ⟨(fun e => by cases e), fun h2 => absurd (h2 i x (Nat.le_refl _) hx) h⟩
    have good : okU x → (b = true ↔ ∀ (j : Nat) x, i ≤ j → xs[j]? = some x → okU x) := fun h => by
      rw [hb2]
      refine ⟨fun h2 j y hj hy => ?_, fun h2 j y hj hy => h2 j y (by omega) hy⟩
      rcases Nat.eq_or_lt_of_le hj with e | hj
      · subst e; rw [hx] at hy; injection hy with hy; subst hy; exact h
      · exact h2 j y hj hy
    by_cases hv : Lib.validD x.f4.data.toList = true
    · rw [hv] at hR
      by_cases h1 : x.f0 = 1
      · by_cases h0 : x.f4.size = 0
        · refine ⟨b, ev_next (fun k => ?_) (Ev.bind hR (g := fun k => chancelref01_Right.f k x.f4) (f := fun k t => if t = true then (if x.f4.toList = ([] : List UInt8) then chancelref07_Right.l0 k xs (wrap64 ((i : Int) + 1)) else some false) else some false) ?_), good ⟨hv, .inl ⟨h1, h0⟩⟩⟩
          · simp only [chancelref07_Right.l0, rd_at hx]
            rw [if_pos (by omega), if_pos (by omega), if_pos h1]
          · refine Ev.congr (fun k => ?_) hb
            rw [if_pos rfl, if_pos ((nil_iff _).2 h0), W1.out]
        · refine ⟨false, ev_next (fun k => ?_) (Ev.bind hR (g := fun k => chancelref01_Right.f k x.f4) (f := fun k t => if t = true then (if x.f4.toList = ([] : List UInt8) then chancelref07_Right.l0 k xs (wrap64 ((i : Int) + 1)) else some false) else some false) ?_), bad (fun h => by rcases h.2 with h | h <;> omega)⟩
          · simp only [chancelref07_Right.l0, rd_at hx]
            rw [if_pos (by omega), if_pos (by omega), if_pos h1]
          · refine ev_rfl (fun k => ?_)
            rw [if_pos rfl, if_neg (fun h => h0 ((nil_iff _).1 h))]
      · by_cases h2 : x.f0 = 2
        · refine ⟨b, ev_next (fun k => ?_) (Ev.bind hR (g := fun k => chancelref01_Right.f k x.f4) (f := fun k t => if t = true then chancelref07_Right.l0 k xs (wrap64 ((i : Int) + 1)) else some false) ?_), good ⟨hv, .inr h2⟩⟩
          · simp only [chancelref07_Right.l0, rd_at hx]
            rw [if_pos (by omega), if_pos (by omega), if_neg h1, if_pos h2]
          · refine Ev.congr (fun k => ?_) hb
            rw [if_pos rfl, W1.out]
        · refine ⟨false, ev_next (f := fun _ => some false) (fun k => ?_) (Ev.now _), bad (fun h => by rcases h.2 with h | h <;> omega)⟩
          simp only [chancelref07_Right.l0, rd_at hx]
          rw [if_pos (by omega), if_pos (by omega), if_neg h1, if_neg h2]
    · have hv' := Bool.eq_false_iff.2 hv
      rw [hv'] at hR
      refine ⟨false, ?_, bad (fun h => hv h.1)⟩
      by_cases h1 : x.f0 = 1
      · refine ev_next (fun k => ?_) (Ev.bind hR (g := fun k => chancelref01_Right.f k x.f4) (f := fun k t => if t = true then (if x.f4.toList = ([] : List UInt8) then chancelref07_Right.l0 k xs (wrap64 ((i : Int) + 1)) else some false) else some false) ?_)
        · simp only [chancelref07_Right.l0, rd_at hx]
          rw [if_pos (by omega), if_pos (by omega), if_pos h1]
        · exact ev_rfl (fun k => rfl)
      · by_cases h2 : x.f0 = 2
        · refine ev_next (fun k => ?_) (Ev.bind hR (g := fun k => chancelref01_Right.f k x.f4) (f := fun k t => if t = true then chancelref07_Right.l0 k xs (wrap64 ((i : Int) + 1)) else some false) ?_)
          · simp only [chancelref07_Right.l0, rd_at hx]
            rw [if_pos (by omega), if_pos (by omega), if_neg h1, if_pos h2]
          · exact ev_rfl (fun k => rfl)
        · refine ev_next (f := fun _ => some false) (fun k => ?_) (Ev.now _)
          simp only [chancelref07_Right.l0, rd_at hx]
          rw [if_pos (by omega), if_pos (by omega), if_neg h1, if_neg h2]
theorem refRightU_ev (xs : List U) (hn : xs.length ≤ 2932031007402) (hz : ∀ x ∈ xs, x.f4.size ≤ 1099511627776) : Ev (fun k => chancelref07_Right.f k xs) (okB xs) := by
  obtain ⟨b, hb, h⟩ := right_l0 xs hn hz _ 0 rfl (by omega)
  have e : b = okB xs := by
    rw [Bool.eq_iff_iff, h, okB_true]
    refine ⟨fun h2 x hx => ?_, fun h2 j x _ hx => h2 x (List.mem_of_getElem? hx)⟩
    obtain ⟨j, hj⟩ := List.getElem?_of_mem hx
    exact h2 j x (by omega) hj
  rw [← e]
  exact hb
theorem same_l0 (xs : List U) (hn : xs.length ≤ 2932031007402) : ∀ (d i : Nat), xs.length - i = d → i ≤ xs.length → Ev (fun k => chancelref07_Same.l0 k xs xs (i : Int)) true
  | 0, i, hd, hi => ev_next (f := fun _ => some true) (fun k => by simp only [chancelref07_Same.l0]; rw [if_neg (by omega)]) (Ev.now _)
  | d + 1, i, hd, hi => by
    have W1 := Lib.hid (wrap_succ (i := i) (by omega))
    refine ev_next (fun k => ?_) (same_l0 xs hn d (i + 1) (by omega) (by omega))
    simp only [chancelref07_Same.l0]
    rw [if_pos (by omega), if_pos (by omega), if_pos (by omega), if_neg (by simp), W1.out]
theorem same_ev (xs : List U) (hn : xs.length ≤ 2932031007402) : Ev (fun k => chancelref07_Same.f k xs xs) true :=
  Ev.congr (fun k => by unfold chancelref07_Same.f; rw [if_pos rfl]; rfl) (same_l0 xs hn _ 0 rfl (by omega))
end Go.Proofs.YthkihkkmoknbjaaDoor.Undo
/- The walk of the law UndoLoads: it answers true. Conditions: the sizes that every row has; Go's two tables of utf8 as they are laid. -/
namespace Go.Proofs.YthkihkkmoknbjaaDoor.Undo
open Go.RowKit Go.Proofs.YthkihkkmoknbjaaDoorW.PrintWords Go.Proofs.YthkihkkmoknbjaaDoorW.PrintLast Go.Proofs.YthkihkkmoknbjaaDoorW.PrintMore Go.Proofs.YthkihkkmoknbjaaDoor.Rope Go.Proofs.YthkihkkmoknbjaaDoor.PUndoFinds
set_option linter.unusedVariables false
set_option linter.unusedSimpArgs false
/-- A stack comes back, and all went well. -/
def RetS (n : Nat) (ts : List Th) (w : World) (e : Ending) (w' : World) : Prop :=
  ∃ A c, e = .returned (.tuple #[.agg #[.slice A n c], .bool true]) ∧ Stk w' (.agg #[.slice A n c]) ts ∧ Below w.heap.size w w'
theorem Stk.form {w : World} {v : Value} {ts : List Th} (h : Stk w v ts) : ∃ A c, v = .agg #[.slice A ts.length c] := by
  obtain ⟨A, c, xs, e, _, _, ht⟩ := h
  exact ⟨A, c, by rw [ht.1]; exact e⟩
theorem load_good (A : Option Addr) (c : Nat) (xs : List U) (w : World) (hT : Tabs w) (hr : Kd.C k23 w A xs.length xs) (hz : ∀ x ∈ xs, x.f4.size ≤ 1099511627776) (hl : xs.length ≤ 1099511627776) (hok : ∀ x ∈ xs, okU x) :
    Calls Tryd.prog 14 #[.slice A xs.length c] w (RetS xs.length (xs.map thOf) w) := by
  refine (load_calls A c xs w hT hr hz hl).mono ?_
  rintro e w' ⟨v, b, rfl, h1, h2, hb⟩
  cases b with
  | false => exact absurd hok (h2 rfl).1
  | true =>
    have hs := (h1 rfl).2
    obtain ⟨A', c', e⟩ := hs.form
    rw [List.length_map] at e
    subst e
    exact ⟨A', c', rfl, hs, hb⟩
theorem load_bad (A : Option Addr) (c : Nat) (xs : List U) (w : World) (hT : Tabs w) (hr : Kd.C k23 w A xs.length xs) (hz : ∀ x ∈ xs, x.f4.size ≤ 1099511627776) (hl : xs.length ≤ 1099511627776) (hok : ¬ ∀ x ∈ xs, okU x) :
    Calls Tryd.prog 14 #[.slice A xs.length c] w fun e w' => e = .returned (.tuple #[.agg #[.slice none 0 0], .bool false]) ∧ Below w.heap.size w w' := by
  refine (load_calls A c xs w hT hr hz hl).mono ?_
  rintro e w' ⟨v, b, rfl, h1, h2, hb⟩
  cases b with
  | true => exact absurd (h1 rfl).1 hok
  | false =>
    obtain ⟨_, rfl⟩ := h2 rfl
    exact ⟨rfl, hb⟩
theorem stk_nil (w : World) : Stk w (.agg #[.slice none 0 0]) [] := ⟨none, 0, [], rfl, Nat.le_refl _, Kd.C_nil _ _, rfl, fun j x t h => by simp at h⟩
/-- A row of one, just built. -/
theorem C_one {W : World} {g : Nat} {x : U} (h : W.heap[g]? = some (.cells (ldCells x) 23 (0, 0))) : Kd.C k23 W (some ⟨g, 0, none⟩) 1 [x] := by
  refine ⟨rfl, by decide, fun _ => ⟨_, rfl, fun j p hj => ?_⟩⟩
  cases j with
  | succ j => simp at hj
  | zero =>
    simp only [List.getElem?_cons_zero, Option.some.injEq] at hj
    subst hj
    refine ⟨_, rfl, k23_mk W x, fun i u hu => ?_⟩
    rw [add_plain]
    have e : (0 * k23.sz + i) = i := by omega
    rw [e, blk_cell h i]
    simpa using hu
theorem plain_of {xs : List U} (h : ∀ x ∈ xs, okU x) : (xs.map thOf).map plainTh = xs := by
  rw [List.map_map]
  conv => rhs; rw [← List.map_id xs]
  refine List.map_congr_left (fun x hx => ?_)
  obtain ⟨hv, h1⟩ := h x hx
  obtain ⟨x0, x1, x2, x3, x4⟩ := x
  show plainTh (thOf _) = _
  unfold thOf
  rcases h1 with ⟨e0, e4⟩ | e0
  · have e0' : x0 = 1 := e0
    have e4' : x4 = ⟨#[]⟩ := by
      apply ByteArray.ext
      exact Array.eq_empty_of_size_eq_zero e4
    subst e0'; subst e4'
    rfl
  · have e0' : x0 = 2 := e0
    subst e0'
    rfl
def x0 : U := ⟨2, 1, 2, 0, ⟨#[120]⟩⟩
theorem x0_ok : okU x0 := ⟨(validD_iff _).2 ⟨one [120], one_letts (by decide), one_flat [120]⟩, .inr rfl⟩
theorem x0_all : ∀ x ∈ [x0], okU x := fun x hx => by rw [List.mem_singleton.1 hx]; exact x0_ok
set_option maxRecDepth 1000000 in
set_option maxHeartbeats 4000000 in
theorem undoLoads_walk (A : Option Addr) (c : Nat) (xs : List U) (w : World) (hT : Tabs w) (hr : Kd.C k23 w A xs.length xs) (hc : xs.length ≤ c) (hn : xs.length ≤ 2932031007402) (hz : ∀ x ∈ xs, x.f4.size ≤ 140737488351232) :
    Calls Tryd.prog 4 #[.slice A xs.length c] w fun e w' => e = .returned (.bool true) ∧ Below w.heap.size w w' := by
  obtain ⟨bs, hbs, hsm⟩ := small_ev xs hn hz
  obtain ⟨k1, hk1⟩ := Go.Proofs.YthkihkkmoknbjaaDoorW.PrintWords.Ev.rounds hbs
  have HT := Lib.hid hT
  have HR := Lib.hid hr
  have K1 := Lib.hid hk1
  have SM := Lib.hid hsm
  clear hT hr hz hbs hk1 hsm
  go_enter Tryd.func4, Tryd.ntmps4
  go_wp2_with fail
  have XB : Hid ((w.alloc (.cells (ldCells x0) 23)).heap[w.heap.size]? = some (.cells (ldCells x0) 23 (0, 0))) := Lib.hid (blk_new w _)
  have BA : Hid (Below w.heap.size w (w.alloc (.cells (ldCells x0) 23))) := Lib.hid (below_alloc (Below.refl _ _) _)
  (go_at_call 14; refine (load_good (some ⟨w.heap.size, 0, none⟩) 1 [x0] _ (HT.out.below BA.out) (C_one XB.out) (fun x hx => by rw [List.mem_singleton.1 hx]; decide) (by decide) x0_all).mono ?_; rintro e w1 ⟨A1, c1, rfl, hs1, hb1⟩)
  have S1 := Lib.hid hs1
  have B1 := Lib.hid (below_step BA.out hb1)
  clear XB BA hs1 hb1
  go_upto_region 2 with (first | ((with_reducible refine gate_dst (N := 3) rfl ?_); refine box_event ?hg (N := 3) ?hd (cs := #[.slice none 0 0]) (t := 38) ?hr ?_; (case hd => rfl); (case hg => rfl); (case hr => first | (go_simp; done) | (go_simp; rfl)); intro gA hgA wA hboxA hbA; have GA := Lib.hid (show w.heap.size ≤ gA by rw [hgA]; exact B1.out.size); have GB := Lib.hid (show w1.heap.size ≤ gA by rw [hgA]; exact Nat.le_refl _); have BA := Lib.hid hbA; have XA := Lib.hid hboxA; have y0 := (blk_cell hboxA 0).trans rfl; have z0 := blk_frozen hboxA 0; clear hgA hboxA hbA))
  refine gen2 (φ := fun W => Code.wp _ _ _ _ W) (P := fun W => Below w.heap.size w W ∧ W.cell? ⟨gA, 0, none⟩ = some (.slice A1 1 c1) ∧ Hid (Stk W (.agg #[.slice A1 1 c1]) ([x0].map thOf))) ⟨below_set (below_step B1.out BA.out) GA.out, (blk_cell (blk_set XA.out 0 (.slice A1 1 c1)) 0).trans rfl, Lib.hid (S1.out.below (below_set BA.out GB.out))⟩ ?_
  rintro W ⟨hbW, y1, SW⟩
  have BW := Lib.hid hbW
  clear hbW y0 z0 XA BA GA GB S1 B1
  go_wp2_with fail
  (go_at_call 15; refine (plain_calls (.agg #[.slice A1 1 c1]) ([x0].map thOf) _ SW.out (by decide)).mono ?_; rintro e w2 ⟨v2, rfl, hr2, hb2⟩)
  have B2 := Lib.hid (below_step BW.out hb2)
  obtain ⟨A2, c2, e2⟩ := Kd.R_slice hr2
  have e3 : v2 = .slice A2 1 c2 := e2
  subst e3
  clear hr2 hb2 SW y1 BW e2
  go_wp2_with fail
  (go_at_call 16; refine (chancellaw07_small.calls k1 A c xs bs _ (Kd.C_below HR.out B2.out) hc K1.out).mono ?_; rintro e w3 ⟨rfl, hb3⟩)
  have B3 := Lib.hid (below_step B2.out hb3)
  clear hb3
  cases bs with
  | false =>
    go_wp2
    go_ret
    exact ⟨rfl, B3.out⟩
  | true =>
    obtain ⟨hl60, hz2⟩ := SM.out rfl
    have hn2 : xs.length ≤ 1099511627776 := by omega
    have hz3 := Lib.hid (show ∀ x ∈ xs, x.f4.size ≤ 1099511627776 from fun x hx => by have := hz2 x hx; omega)
    obtain ⟨k2, hk2⟩ := Go.Proofs.YthkihkkmoknbjaaDoorW.PrintWords.Ev.rounds (refRightU_ev xs hn hz3.out)
    have K2 := Lib.hid hk2
    clear hz2 hk2
    cases hb : okB xs with
    | true =>
      rw [hb] at K2
      have OK := Lib.hid (okB_true.1 hb)
      obtain ⟨k3, hk3⟩ := Go.Proofs.YthkihkkmoknbjaaDoorW.PrintWords.Ev.rounds (same_ev xs hn)
      have K3 := Lib.hid hk3
      clear hb hk3
      go_wp2_with fail
      (go_at_call 14; refine (load_good A c xs _ (HT.out.below B3.out) (Kd.C_below HR.out B3.out) hz3.out hn2 OK.out).mono ?_; rintro e w4 ⟨A4, c4, rfl, hs4, hb4⟩)
      have S4 := Lib.hid hs4
      have B4 := Lib.hid (below_step B3.out hb4)
      clear hs4 hb4
      go_upto_region 7 with (first | ((with_reducible refine gate_dst (N := 5) rfl ?_); refine box_event ?hg (N := 5) ?hd (cs := #[.slice none 0 0]) (t := 38) ?hr ?_; (case hd => rfl); (case hg => rfl); (case hr => first | (go_simp; done) | (go_simp; rfl)); intro gC hgC wC hboxC hbC; have GA := Lib.hid (show w.heap.size ≤ gC by rw [hgC]; exact B4.out.size); have GB := Lib.hid (show w4.heap.size ≤ gC by rw [hgC]; exact Nat.le_refl _); have BA := Lib.hid hbC; have XA := Lib.hid hboxC; have y0 := (blk_cell hboxC 0).trans rfl; have z0 := blk_frozen hboxC 0; clear hgC hboxC hbC))
      refine gen2 (φ := fun W => Code.wp _ _ _ _ W) (P := fun W => Below w.heap.size w W ∧ W.cell? ⟨gC, 0, none⟩ = some (.slice A4 xs.length c4) ∧ Hid (Stk W (.agg #[.slice A4 xs.length c4]) (xs.map thOf))) ⟨below_set (below_step B4.out BA.out) GA.out, (blk_cell (blk_set XA.out 0 (.slice A4 xs.length c4)) 0).trans rfl, Lib.hid (S4.out.below (below_set BA.out GB.out))⟩ ?_
      rintro V ⟨hbV, y2, SV⟩
      have BV := Lib.hid hbV
      clear hbV y0 z0 XA BA GA GB S4 B4
      go_wp2_with fail
      (go_at_call 10; refine (chancelref07_Right.calls k2 A c xs true _ (Kd.C_below HR.out BV.out) hc K2.out).mono ?_; rintro e w5 ⟨rfl, hb5⟩)
      have B5 := Lib.hid (below_step BV.out hb5)
      have S5 := Lib.hid (SV.out.below hb5)
      replace y2 := pw_cell_below hb5 y2
      clear hb5 SV BV
      go_wp2_with fail
      (go_at_call 15; refine (plain_calls (.agg #[.slice A4 xs.length c4]) (xs.map thOf) _ S5.out (by simpa using hn2)).mono ?_; rintro e w6 ⟨v6, rfl, hr6, hb6⟩)
      have B6 := Lib.hid (below_step B5.out hb6)
      rw [plain_of OK.out] at hr6
      obtain ⟨A6, c6, e6, hc6, hC6⟩ := Kd.R_reads hr6
      subst e6
      have C6 := Lib.hid hC6
      clear hr6 hb6 hC6 y2 S5
      go_wp2_with fail
      (go_at_call 17; refine (chancelref07_Same.calls k3 A6 c6 xs A c xs true _ C6.out hc6 (Kd.C_below HR.out B6.out) hc K3.out).mono ?_; rintro e w7 ⟨rfl, hb7⟩)
      have B7 := Lib.hid (below_step B6.out (below_drawn hb7))
      clear hb7
      go_wp2
      go_ret
      exact ⟨rfl, B7.out⟩
    | false =>
      rw [hb] at K2
      have OK := Lib.hid (okB_false.1 hb)
      clear hb
      go_wp2_with fail
      (go_at_call 14; refine (load_bad A c xs _ (HT.out.below B3.out) (Kd.C_below HR.out B3.out) hz3.out hn2 OK.out).mono ?_; rintro e w4 ⟨rfl, hb4⟩)
      have B4 := Lib.hid (below_step B3.out hb4)
      clear hb4
      go_upto_region 7 with (first | ((with_reducible refine gate_dst (N := 5) rfl ?_); refine box_event ?hg (N := 5) ?hd (cs := #[.slice none 0 0]) (t := 38) ?hr ?_; (case hd => rfl); (case hg => rfl); (case hr => first | (go_simp; done) | (go_simp; rfl)); intro gC hgC wC hboxC hbC; have GA := Lib.hid (show w.heap.size ≤ gC by rw [hgC]; exact B4.out.size); have BA := Lib.hid hbC; have XA := Lib.hid hboxC; have y0 := (blk_cell hboxC 0).trans rfl; have z0 := blk_frozen hboxC 0; clear hgC hboxC hbC))
      refine gen2 (φ := fun W => Code.wp _ _ _ _ W) (P := fun W => Below w.heap.size w W ∧ W.cell? ⟨gC, 0, none⟩ = some (.slice none 0 0)) ⟨below_set (below_step B4.out BA.out) GA.out, (blk_cell (blk_set XA.out 0 (.slice none 0 0)) 0).trans rfl⟩ ?_
      rintro V ⟨hbV, y2⟩
      have BV := Lib.hid hbV
      clear hbV y0 z0 XA BA GA B4
      go_wp2_with fail
      (go_at_call 10; refine (chancelref07_Right.calls k2 A c xs false _ (Kd.C_below HR.out BV.out) hc K2.out).mono ?_; rintro e w5 ⟨rfl, hb5⟩)
      have B5 := Lib.hid (below_step BV.out hb5)
      replace y2 := pw_cell_below hb5 y2
      clear hb5 BV
      go_wp2_with fail
      (go_at_call 15; refine (plain_calls (.agg #[.slice none 0 0]) [] _ (stk_nil _) (by decide)).mono ?_; rintro e w6 ⟨v6, rfl, hr6, hb6⟩)
      have B6 := Lib.hid (below_step B5.out hb6)
      obtain ⟨A6, c6, e6⟩ := Kd.R_slice hr6
      have e7 : v6 = .slice A6 0 c6 := e6
      subst e7
      clear hr6 hb6 e6 y2
      go_wp2
      go_ret
      exact ⟨rfl, B6.out⟩
end Go.Proofs.YthkihkkmoknbjaaDoor.Undo
