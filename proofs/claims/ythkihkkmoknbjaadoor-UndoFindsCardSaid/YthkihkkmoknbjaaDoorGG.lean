/- The contracts of slices.Backward at things, and of what it hands back. Conditions: rows below the loop's start. -/
import Derived.Test.YthkihkkmoknbjaaDoorGC
import Derived.RangeFuncBox
import Derived.RangeFuncLeaves
import Derived.Shelf.Abstract
import Derived.OwnWalkIn
import Derived.TacticsInMore
import Derived.LoopNIn
import Derived.LoopIn
import Derived.RangeFuncCalls
import Derived.RangeFuncBound
import Derived.Stop.RegionWithIn
import Derived.Test.YthkihkkmoknbjaaDoorOwn
import Derived.Deep.DeepCutAuto
import Derived.Lib.SliceRun
namespace Go.Proofs.YthkihkkmoknbjaaDoor.Undo
open Go.RowKit Go.Shelf Go.Proofs.YthkihkkmoknbjaaDoorW.PrintWords Go.Proofs.YthkihkkmoknbjaaDoorW.PrintLast Go.Proofs.YthkihkkmoknbjaaDoorW.PrintMore Go.Proofs.YthkihkkmoknbjaaDoor.Rope Go.Proofs.YthkihkkmoknbjaaDoor.PUndoFinds
set_option linter.unusedVariables false
set_option linter.unusedSimpArgs false
attribute [local go_sem] Oper.semAt_some
/-- An index of a row. -/
abbrev At (n : Nat) := { j : Nat // j < n }
/-- The first k indexes from behind. -/
def backs (n k : Nat) : List Nat := (List.range k).map fun i => n - 1 - i
theorem backs_succ (n k : Nat) : backs n (k + 1) = backs n k ++ [n - 1 - k] := by simp [backs, List.range_succ]
theorem backs_length (n k : Nat) : (backs n k).length = k := by simp [backs]
abbrev atEnc (xs : List (TypeId × Value)) (x : At xs.length) : Array Value := #[.int .i64 (x.1 : Int), encI (xs[x.1]'x.2)]
set_option maxRecDepth 100000 in
set_option maxHeartbeats 2000000 in
theorem back1_in (F : Fence) (n : Nat) (h40 : F.fn 40) (hro : F.round = none) (hn : 1 ≤ n) (l Bs n₀ cap : Nat) (ad : Addr) (xs : List (TypeId × Value)) (hreach : xs.length ≤ 1099511627776) (hb : ad.block < n₀) (hBs0 : Bs < n₀) (J Jx : List (At xs.length) → World → Prop)
    (hY : ∀ pre x W, J pre W → pre.length < xs.length → YieldAt F (n - 1) Tryd.prog l (atEnc xs x) W fun e W' =>
      (e = .returned (.bool true) ∧ J (pre ++ [x]) W' ∧ Below n₀ W W') ∨ (e = .returned (.bool false) ∧ Jx (pre ++ [x]) W'))
    (W : World) (hBs : W.cell? ⟨Bs, 0, none⟩ = some (.slice (some ad) xs.length cap)) (hc : ∀ (j : Nat) x, xs[j]? = some x → W.cell? (ad.add j) = some (encI x)) (h0 : J [] W) :
    CallsIn F n Tryd.prog 40 #[.func (.yield l) #[] #[], .pointer (some ⟨Bs, 0, none⟩)] W fun e W' => (∃ v, e = .returned v) ∧
      ((∃ ys : List (At xs.length), ys.map (·.1) = backs xs.length xs.length ∧ J ys W') ∨ (∃ pre : List (At xs.length), (∃ k, k ≤ xs.length ∧ pre.map (·.1) = backs xs.length k) ∧ Jx pre W')) := by
  refine callsIn_of_wp Tryd.func40 rfl h40 ?_ hro
  simp only [Tryd.ntmps40, List.size_toArray, List.length_cons, List.length_nil, Nat.reduceAdd, Nat.reduceSub, Array.replicate_succ, Array.replicate_zero, List.push_toArray, List.append_toArray, List.nil_append, List.cons_append]
  gi_wp2
  gi_loopw [3] (fun i wr => ∃ (r : Nat) (pre : List (At xs.length)), r ≤ xs.length ∧ i = .int .i64 ((r : Int) - 1) ∧ pre.map (·.1) = backs xs.length (xs.length - r) ∧ J pre wr ∧ Below n₀ W wr)
    (fun i _ => (intOf i + 1).toNat)
  case atStart => exact ⟨xs.length, [], Nat.le_refl _, rfl, by simp [backs], h0, Below.refl _ _⟩
  case round =>
    obtain ⟨r, pre, hr, rfl, hpre, hJs, hnx⟩ := hrel
    have hbox : wr.cell? ⟨Bs, 0, none⟩ = some (.slice (some ad) xs.length cap) := (hnx.cell (p := ⟨Bs, 0, none⟩) hBs0).trans hBs
    cases r with
    | zero =>
      gi_wp2
      go_end0
      exact ⟨⟨_, rfl⟩, .inl ⟨_, hpre, hJs⟩⟩
    | succ m =>
      have hlt : m < xs.length := by omega
      have e1 : ((m + 1 : Nat) : Int) - 1 = (m : Int) := by omega
      rw [e1]
      have hcx : wr.cell? (ad.add m) = some (encI xs[m]) := (hnx.cell (p := ad.add m) (by rw [add_blk]; exact hb)).trans (hc m _ (List.getElem?_eq_getElem hlt))
      have hpl : pre.length < xs.length := by have := congrArg List.length hpre; rw [List.length_map, backs_length] at this; omega
      obtain ⟨fn, tmps, assign, body, hy, hR⟩ := hY pre ⟨m, hlt⟩ wr hJs hpl
      dsimp only [atEnc] at hy
      have b1 : (0 : Int) ≤ (m : Int) := by omega
      have b2 : (m : Int) < (xs.length : Int) := by omega
      have HP := Lib.hid hpre
      clear hpre e1 hpl
      gi_wp2
      refine hR.mono ?_
      rintro e W3 (⟨rfl, hJ3, hk3⟩ | ⟨rfl, hJx3⟩)
      · gi_wp2
        go_roundw
        case rel =>
          refine ⟨m, pre ++ [⟨m, hlt⟩], by omega, rfl, ?_, hJ3, hnx.trans hk3⟩
          have e2 : xs.length - m = xs.length - (m + 1) + 1 := by omega
          have e3 : xs.length - 1 - (xs.length - (m + 1)) = m := by omega
          rw [e2, backs_succ, List.map_append, HP.out, e3]
          rfl
        case measure => simp [intOf]
      · gi_wp2
        refine bodyPost_ret (results_none rfl _ _ _) rfl ?_
        refine ⟨⟨_, rfl⟩, .inr ⟨pre ++ [⟨m, hlt⟩], ⟨xs.length - m, by omega, ?_⟩, hJx3⟩⟩
        have e2 : xs.length - m = xs.length - (m + 1) + 1 := by omega
        have e3 : xs.length - 1 - (xs.length - (m + 1)) = m := by omega
        rw [e2, backs_succ, List.map_append, HP.out, e3]
        rfl
set_option maxRecDepth 100000 in
set_option maxHeartbeats 1000000 in
/-- .. at no row: no round. -/
theorem back1_nil_in (F : Fence) (n : Nat) (h40 : F.fn 40) (hro : F.round = none) (l Bs cap : Nat) (A : Option Addr) (J : List (At 0) → World → Prop) (W : World) (hBs : W.cell? ⟨Bs, 0, none⟩ = some (.slice A 0 cap)) (h0 : J [] W) :
    CallsIn F n Tryd.prog 40 #[.func (.yield l) #[] #[], .pointer (some ⟨Bs, 0, none⟩)] W fun e W' => (∃ v, e = .returned v) ∧ J [] W' := by
  refine callsIn_of_wp Tryd.func40 rfl h40 ?_ hro
  simp only [Tryd.ntmps40, List.size_toArray, List.length_cons, List.length_nil, Nat.reduceAdd, Nat.reduceSub, Array.replicate_succ, Array.replicate_zero, List.push_toArray, List.append_toArray, List.nil_append, List.cons_append]
  gi_wp2
  gi_loopw [3] (fun i wr => i = .int .i64 (-1) ∧ J [] wr) (fun _ _ => 0)
  case atStart => exact ⟨rfl, h0⟩
  case round =>
    obtain ⟨rfl, hJs⟩ := hrel
    gi_wp2
    go_end0
    exact ⟨⟨_, rfl⟩, hJs⟩
set_option maxHeartbeats 1000000 in
/-- slices.Backward(s): the slice is boxed; the function value holds the box. -/
theorem back_in (F : Fence) (n : Nat) (h32 : F.fn 32) (hro : F.round = none) (a : Option Addr) (len cap : Nat) (w : World) :
    CallsIn F n Tryd.prog 32 #[.slice a len cap] w fun e w' => e = .returned (.func (.func 40) #[] #[.pointer (some ⟨w.heap.size, 0, none⟩)]) ∧ w' = w.alloc (.cells #[.slice a len cap] 36) := by
  refine callsIn_of_wp Tryd.func32 rfl h32 ?_ hro
  simp only [Tryd.ntmps32, List.size_toArray, List.length_cons, List.length_nil, Nat.reduceAdd, Nat.reduceSub, Array.replicate_succ, Array.replicate_zero, List.push_toArray, List.append_toArray, List.nil_append, List.cons_append]
  gi_wp2
  go_ret
  exact ⟨rfl, rfl⟩
/-- What Backward hands back goes from behind to the front. -/
theorem back_stops (F : Fence) (n : Nat) (h40 : F.fn 40) (hro : F.round = none) (hn : 1 ≤ n) (Bs n₀ cap : Nat) (A : Option Addr) (xs : List (TypeId × Value)) (hreach : xs.length ≤ 1099511627776) (w : World) (hBs : Bs < w.heap.size) (hn₀ : n₀ ≤ w.heap.size) (hBn : Bs < n₀)
    (hc : w.cell? ⟨Bs, 0, none⟩ = some (.slice A xs.length cap)) (hI : ∀ ad, A = some ad → ad.block < n₀) (hC : Kd.C kI w A xs.length xs) :
    SeqStopsK F n Tryd.prog 40 #[.pointer (some ⟨Bs, 0, none⟩)] (atEnc xs) (Below n₀) (fun ys => ys.map (·.1) = backs xs.length xs.length) (fun pre => ∃ k, k ≤ xs.length ∧ pre.map (·.1) = backs xs.length k) xs.length w := fun l J Jx W hW _ _ hY h0 => by
  have hc' := (hW.cell (p := ⟨Bs, 0, none⟩) hBs).trans hc
  by_cases hl : 0 < xs.length
  · obtain ⟨ad, e, _⟩ := hC.2.2 hl
    subst e
    have hb := hI ad rfl
    refine back1_in F n h40 hro hn l Bs n₀ cap ad xs hreach hb hBn J Jx hY W hc' (fun j x hj => ?_) h0
    obtain ⟨ad', e', hcell⟩ := at_I hC hj ((List.getElem?_eq_some_iff.1 hj).1)
    injection e' with e'
    subst e'
    exact ((hW.mono hn₀).cell (p := ad.add j) (by rw [add_blk]; exact hb)).trans hcell
  · have hx : xs = [] := List.eq_nil_of_length_eq_zero (by omega)
    subst hx
    exact (back1_nil_in F n h40 hro l Bs cap A J W hc' h0).mono fun e W' ⟨he, hj⟩ => ⟨he, .inl ⟨[], rfl, hj⟩⟩
end Go.Proofs.YthkihkkmoknbjaaDoor.Undo
/- The walk of Stack.Last: the uppermost thing of a document. Conditions: at most 2^40 things. -/
namespace Go.Proofs.YthkihkkmoknbjaaDoor.Undo
open Go.RowKit Go.Shelf Go.Proofs.YthkihkkmoknbjaaDoorW.PrintWords Go.Proofs.YthkihkkmoknbjaaDoorW.PrintLast Go.Proofs.YthkihkkmoknbjaaDoorW.PrintMore Go.Proofs.YthkihkkmoknbjaaDoor.Rope Go.Proofs.YthkihkkmoknbjaaDoor.PUndoFinds
set_option linter.unusedVariables false
set_option linter.unusedSimpArgs false
attribute [local go_sem] Oper.semAt_some
theorem blk_new2 {w : World} {o : Obj} {g : Nat} (h : g = w.heap.size) : (w.alloc o).heap[g]? = some o := by rw [h]; exact blk_new w o
/-- The uppermost thing of a document. -/
def lastT (ts : List Th) (d : Int) : Option Th := ts.reverse.find? fun t => t.doc == d
theorem mem_backs {n k j : Nat} (hk : k ≤ n) (h1 : n - k ≤ j) (h2 : j < n) : j ∈ backs n k := by
  unfold backs
  rw [List.mem_map]
  exact ⟨n - 1 - j, List.mem_range.2 (by omega), by omega⟩
theorem at_mem {n k : Nat} {l : List (At n)} (h : l.map (·.1) = backs n k) {j : Nat} (hk : k ≤ n) (h1 : n - k ≤ j) (h2 : j < n) : ∃ p ∈ l, p.1 = j := by
  have := mem_backs hk h1 h2
  rw [← h] at this
  obtain ⟨p, hp, e⟩ := List.mem_map.1 this
  exact ⟨p, hp, e⟩
theorem lastT_none {ts : List Th} {d : Int} {n : Nat} (hn : ts.length = n) {ys : List (At n)} (hys : ys.map (·.1) = backs n n) (hp : ∀ p ∈ ys, ∀ t, ts[p.1]? = some t → ¬ t.doc = d) : lastT ts d = none := by
  unfold lastT
  rw [List.find?_eq_none]
  intro t ht
  rw [List.mem_reverse] at ht
  obtain ⟨j, hj⟩ := List.getElem?_of_mem ht
  have hlt := (List.getElem?_eq_some_iff.1 hj).1
  obtain ⟨p, hpy, e⟩ := at_mem hys (Nat.le_refl _) (j := j) (by omega) (by omega)
  have := hp p hpy t (by rw [e]; exact hj)
  simpa using this
theorem lastT_some {ts : List Th} {d : Int} {n k : Nat} (hn : ts.length = n) (hk : k ≤ n) {ini : List (At n)} {last : At n} {t : Th} (hpre : (ini ++ [last]).map (·.1) = backs n k) (hp : ∀ p ∈ ini, ∀ t, ts[p.1]? = some t → ¬ t.doc = d) (ht : ts[last.1]? = some t) (hd : t.doc = d) : lastT ts d = some t := by
  obtain ⟨k', rfl⟩ : ∃ k', k = k' + 1 := by
    cases k with
    | zero => simp [backs] at hpre
    | succ k' => exact ⟨k', rfl⟩
  rw [backs_succ, List.map_append] at hpre
  obtain ⟨h1, h2⟩ := List.append_inj' hpre rfl
  have h3 : last.1 = n - 1 - k' := by simpa using h2
  have hlt := (List.getElem?_eq_some_iff.1 ht).1
  have e : ts = ts.take last.1 ++ t :: ts.drop (last.1 + 1) := by
    have e1 := List.take_append_drop last.1 ts
    have e2 := List.drop_eq_getElem_cons hlt
    have e3 : ts[last.1] = t := by
      have := List.getElem?_eq_getElem hlt
      rw [ht] at this
      injection this with this
      exact this.symm
    rw [e2, e3] at e1
    exact e1.symm
  unfold lastT
  rw [e, List.reverse_append, List.reverse_cons, List.append_assoc, List.find?_append]
  have hnone : (ts.drop (last.1 + 1)).reverse.find? (fun t => t.doc == d) = none := by
    rw [List.find?_eq_none]
    intro u hu
    rw [List.mem_reverse] at hu
    obtain ⟨i, hi⟩ := List.getElem?_of_mem hu
    rw [List.getElem?_drop] at hi
    have hl := (List.getElem?_eq_some_iff.1 hi).1
    obtain ⟨p, hpy, e5⟩ := at_mem h1 (by omega) (j := last.1 + 1 + i) (by omega) (by omega)
    have := hp p hpy u (by rw [e5]; exact hi)
    simpa using this
  rw [hnone]
  simp [hd]
def RetLast (ts : List Th) (d : Int) (w : World) (e : Ending) (w' : World) : Prop :=
  ∃ v, e = .returned (.tuple #[v, .bool (lastT ts d).isSome]) ∧ ThO w' v (lastT ts d) ∧ Below w.heap.size w w'
set_option maxRecDepth 100000 in
set_option maxHeartbeats 4000000 in
theorem last_calls (A : Option Addr) (n c : Nat) (ts : List Th) (d : Int) (w : World) (h : Stk w (.agg #[.slice A n c]) ts) (hl : ts.length ≤ 1099511627776) :
    Calls Tryd.prog 21 #[.agg #[.slice A n c], .int .i64 d] w (RetLast ts d w) := by
  obtain ⟨A', c', xs, e, hc, hr, hth, hty⟩ := h
  injection e with e
  injection e with e
  injection e with e _
  injection e with e1 e2 e3
  subst e1; subst e2; subst e3
  have hn := hth.1
  have hl2 : xs.length ≤ 1099511627776 := by omega
  refine (callsIn_wide (n := 6)).1 ?_
  refine callsIn_of_wp_marks Tryd.func21 rfl trivial ?_ rfl
  simp only [Tryd.ntmps21, List.size_toArray, List.length_cons, List.length_nil, Nat.reduceAdd, Nat.reduceSub, Array.replicate_succ, Array.replicate_zero, List.push_toArray, List.append_toArray, List.nil_append, List.cons_append]
  gi_wp2_with (refine ⟨trivial, ?_⟩; gi_at_call 32; refine (back_in Fence.wide _ trivial rfl _ _ _ _).mono ?_; rintro e w' ⟨rfl, rfl⟩)
  obtain ⟨W0, hW0⟩ : ∃ W0, (((((w.alloc (.cells #[.slice A xs.length c] 38)).alloc (.cells #[.int .i64 d] 3)).alloc (.cells #[.nilIface] 20)).alloc (.cells #[.bool false] 4)).alloc (.cells #[.slice A xs.length c] 36)) = W0 := ⟨_, rfl⟩
  have hsz : W0.heap.size = w.heap.size + 5 := by rw [← hW0]; simp
  have hB0 : Below w.heap.size w W0 := by rw [← hW0]; repeat (first | exact Below.refl _ _ | apply below_alloc)
  have x1 : W0.heap[w.heap.size + 1]? = some (.cells #[.int .i64 d] 3 (0, 0)) := by rw [← hW0]; exact blk_alloc (blk_alloc (blk_alloc (blk_new2 (by simp)) _) _) _
  have x2 : W0.heap[w.heap.size + 1 + 1]? = some (.cells #[.nilIface] 20 (0, 0)) := by rw [← hW0]; exact blk_alloc (blk_alloc (blk_new2 (by simp)) _) _
  have x3 : W0.heap[w.heap.size + 1 + 1 + 1]? = some (.cells #[.bool false] 4 (0, 0)) := by rw [← hW0]; exact blk_alloc (blk_new2 (by simp)) _
  have x4 : W0.heap[w.heap.size + 1 + 1 + 1 + 1]? = some (.cells #[.slice A xs.length c] 36 (0, 0)) := by rw [← hW0]; exact blk_new2 (by simp)
  rw [hW0]
  clear hW0
  have hlt : ∀ ad, A = some ad → ad.block < W0.heap.size := fun ad e => by obtain ⟨cs, hcs⟩ := hty ad e; have := blk_lt hcs; omega
  have hR0 := Kd.C_below hr hB0
  have HTH := Lib.hid hth
  clear hth hr hty
  refine wpIn_rangeFunc_ownG rfl (by omega) (gf := 40) (lb := #[.pointer (some ⟨w.heap.size + 1 + 1 + 1 + 1, 0, none⟩)]) rfl trivial (Go.Proofs.enters_of Tryd.func40 (by kernel_rfl) rfl)
    (back_stops Fence.wide _ trivial rfl (by omega) (w.heap.size + 1 + 1 + 1 + 1) W0.heap.size c A xs hl2 W0 (by omega) (Nat.le_refl _) (by omega) (blk_cell x4 0) hlt hR0) belowK_t (belowK_b (Nat.le_refl _)) (Below.refl _ _) (fun _ => rfl)
    (fun pre W => ((∀ p ∈ pre, ∀ t, ts[p.1]? = some t → ¬ t.doc = d) ∧ W.cell? ⟨w.heap.size + 1, 0, none⟩ = some (.int .i64 d) ∧ W.cell? ⟨w.heap.size + 1 + 1, 0, none⟩ = some .nilIface ∧ W.frozen? ⟨w.heap.size + 1 + 1, 0, none⟩ = false ∧ W.cell? ⟨w.heap.size + 1 + 1 + 1, 0, none⟩ = some (.bool false) ∧ W.frozen? ⟨w.heap.size + 1 + 1 + 1, 0, none⟩ = false) ∧ Below W0.heap.size W0 W)
    (fun c pre W => (c = .ret ∧ ∃ ini last t, pre = ini ++ [last] ∧ (∀ p ∈ ini, ∀ t, ts[p.1]? = some t → ¬ t.doc = d) ∧ ts[last.1]? = some t ∧ t.doc = d ∧ W.cell? ⟨w.heap.size + 1 + 1, 0, none⟩ = some (encI (xs[last.1]'last.2)) ∧ W.cell? ⟨w.heap.size + 1 + 1 + 1, 0, none⟩ = some (.bool true)) ∧ Below w.heap.size w W)
    (OwnFrom.and (Own.from (fun s A B row hs hg hr => ⟨hs.1, cell_kept hs.2.1 hg hr, cell_kept hs.2.2.1 hg hr, (frozen_kept hs.2.2.1 hg hr).trans hs.2.2.2.1, cell_kept hs.2.2.2.2.1 hg hr, (frozen_kept hs.2.2.2.2.1 hg hr).trans hs.2.2.2.2.2⟩) _) (ownFrom_below (Nat.le_refl _) (Nat.le_refl _)))
    (fun c => OwnFrom.and (Own.from (fun s A B row hs hg hr => by obtain ⟨hc, ini, last, t, e1, e2, e3, e4, e5, e6⟩ := hs; exact ⟨hc, ini, last, t, e1, e2, e3, e4, cell_kept e5 hg hr, cell_kept e6 hg hr⟩) _) (ownFrom_below (Nat.le_refl _) hB0.size))
    ⟨⟨fun p hp => by simp at hp, blk_cell x1 0, blk_cell x2 0, blk_frozen x2 0, blk_cell x3 0, blk_frozen x3 0⟩, Below.refl _ _⟩
    (fun x => { tmps := #[.agg #[.slice A xs.length c], .int .i64 d, .pointer (some ⟨w.heap.size, 0, none⟩), .pointer (some ⟨w.heap.size + 1, 0, none⟩), .pointer (some ⟨w.heap.size + 1 + 1, 0, none⟩), .pointer (some ⟨w.heap.size + 1 + 1 + 1, 0, none⟩), undef, encI (xs[x.1]'x.2), .pointer (some ⟨w.heap.size, 0, none⟩), .slice A xs.length c, .func (.func 40) #[] #[.pointer (some ⟨w.heap.size + 1 + 1 + 1 + 1, 0, none⟩)], .int .i64 (x.1 : Int), encI (xs[x.1]'x.2), undef, undef, undef, undef, undef], defers := [] }) ?assign ?body ?done ?stop
  case assign =>
    intro l x W K hK
    gi_wp2
    exact hK
  case body =>
    rintro l pre x W ⟨⟨hp, hd, h4, f4, h5, f5⟩, hB⟩ _
    obtain ⟨t, ht⟩ : ∃ t, ts[x.1]? = some t := ⟨_, List.getElem?_eq_getElem (by rw [hn]; exact x.2)⟩
    have TH := Lib.hid ((HTH.out.2 x.1 _ t (List.getElem?_eq_getElem x.2) ht).below (below_step hB0 hB))
    have HT := Lib.hid ht
    have HP := Lib.hid hp
    have HB := Lib.hid hB
    clear ht hp hB
    generalize hy : xs[x.1]'x.2 = y at TH ⊢
    have HY := Lib.hid hy
    clear hy
    have q4 := h4
    have q5 := h5
    by_cases hdoc : t.doc = d
    · have e1 : (t.doc == d) = true := by simp [hdoc]
      have HD := Lib.hid hdoc
      clear hdoc
      gi_wp2
      gi_region_with (refine ⟨trivial, ?_⟩; gi_at_call 30; refine (CallsIn.inRound l (callsIn_wide.2 (doc_calls t (.iface y.1 y.2) _ (TH.out.below (by repeat (first | exact Below.refl _ _ | apply Below.drew)))))).mono ?_; rintro e w' ⟨rfl, hb'⟩; have HB' := Lib.hid (show Below W.heap.size W w' from below_step (by repeat (first | exact Below.refl _ _ | apply Below.drew)) hb'); have KO := Lib.hid (show KeepsOthers W w' from (KeepsOthers.drew _).trans (KeepsOthers.of_grownBy (grown_of_below hb' none) (fun j o e _ => by cases e))); replace hd := pw_cell_below HB'.out hd; replace h4 := pw_cell_below HB'.out h4; replace h5 := pw_cell_below HB'.out h5; replace f4 := (HB'.out.frozen (World.block_lt_of_cell? W _ q4)).trans f4; replace f5 := (HB'.out.frozen (World.block_lt_of_cell? W _ q5)).trans f5; clear hb')
      all_goals
        gi_wp2
        have s2 : (w'.setCell ⟨w.heap.size + 1 + 1, 0, none⟩ (.iface y.1 y.2)).cell? ⟨w.heap.size + 1 + 1, 0, none⟩ = some (.iface y.1 y.2) := World.cell?_setCell_same' _ _ _ (by rw [h4]; rfl)
        have s3 : ((w'.setCell ⟨w.heap.size + 1 + 1, 0, none⟩ (.iface y.1 y.2)).setCell ⟨w.heap.size + 1 + 1 + 1, 0, none⟩ (.bool true)).cell? ⟨w.heap.size + 1 + 1, 0, none⟩ = some (.iface y.1 y.2) := (cell_same (Below.heap_setCell _ ⟨w.heap.size + 1 + 1 + 1, 0, none⟩ (.bool true) (w.heap.size + 1 + 1) (by simp)) 0).trans s2
        have s4 : ((w'.setCell ⟨w.heap.size + 1 + 1, 0, none⟩ (.iface y.1 y.2)).setCell ⟨w.heap.size + 1 + 1 + 1, 0, none⟩ (.bool true)).cell? ⟨w.heap.size + 1 + 1 + 1, 0, none⟩ = some (.bool true) := World.cell?_setCell_same' _ _ _ (by rw [cell_same (Below.heap_setCell _ ⟨w.heap.size + 1 + 1, 0, none⟩ (.iface y.1 y.2) (w.heap.size + 1 + 1 + 1) (by simp)) 0, h5]; rfl)
        exact ⟨((KO.out.trans (KeepsOthers.setCell _ _ _)).trans (KeepsOthers.setCell _ _ _)).from _, ⟨rfl, pre, x, t, rfl, HP.out, HT.out, HD.out, by rw [HY.out]; exact s3, s4⟩, below_set (below_set (below_step hB0 (below_step HB.out HB'.out)) (by omega)) (by omega)⟩
    · have e1 : (t.doc == d) = false := by simp [hdoc]
      have HD := Lib.hid hdoc
      clear hdoc
      gi_wp2
      gi_region_with (refine ⟨trivial, ?_⟩; gi_at_call 30; refine (CallsIn.inRound l (callsIn_wide.2 (doc_calls t (.iface y.1 y.2) _ (TH.out.below (by repeat (first | exact Below.refl _ _ | apply Below.drew)))))).mono ?_; rintro e w' ⟨rfl, hb'⟩; have HB' := Lib.hid (show Below W.heap.size W w' from below_step (by repeat (first | exact Below.refl _ _ | apply Below.drew)) hb'); have KO := Lib.hid (show KeepsOthers W w' from (KeepsOthers.drew _).trans (KeepsOthers.of_grownBy (grown_of_below hb' none) (fun j o e _ => by cases e))); replace hd := pw_cell_below HB'.out hd; replace h4 := pw_cell_below HB'.out h4; replace h5 := pw_cell_below HB'.out h5; replace f4 := (HB'.out.frozen (World.block_lt_of_cell? W _ q4)).trans f4; replace f5 := (HB'.out.frozen (World.block_lt_of_cell? W _ q5)).trans f5; clear hb')
      all_goals
        gi_wp2
        refine ⟨KO.out.from _, HB'.out.mono HB.out.size, ⟨fun p hp => ?_, hd, h4, f4, h5, f5⟩, below_step HB.out HB'.out⟩
        rcases List.mem_append.1 hp with hp | hp
        · exact HP.out p hp
        · rw [List.mem_singleton.1 hp]
          intro t' ht'
          rw [HT.out] at ht'
          injection ht' with ht'
          rw [← ht']
          exact HD.out
  case done =>
    rintro D ys W hD hys ⟨⟨hp, hd, h4, f4, h5, f5⟩, hB⟩ hK
    have HYS := Lib.hid hys
    have HP := Lib.hid hp
    clear hys hp
    gi_wp2
    have hK' := ((KeepsOthers.setCell W ⟨w.heap.size + 1 + 1, 0, none⟩ .nilIface).trans (KeepsOthers.setCell _ ⟨w.heap.size + 1 + 1 + 1, 0, none⟩ (.bool false))).same D _ hK rfl
    have s2 : (W.setCell ⟨w.heap.size + 1 + 1, 0, none⟩ .nilIface).cell? ⟨w.heap.size + 1 + 1, 0, none⟩ = some .nilIface := World.cell?_setCell_same' _ _ _ (by rw [h4]; rfl)
    have s3 : ((W.setCell ⟨w.heap.size + 1 + 1, 0, none⟩ .nilIface).setCell ⟨w.heap.size + 1 + 1 + 1, 0, none⟩ (.bool false)).cell? ⟨w.heap.size + 1 + 1, 0, none⟩ = some .nilIface := (cell_same (Below.heap_setCell _ ⟨w.heap.size + 1 + 1 + 1, 0, none⟩ (.bool false) (w.heap.size + 1 + 1) (by simp)) 0).trans s2
    have s4 : ((W.setCell ⟨w.heap.size + 1 + 1, 0, none⟩ .nilIface).setCell ⟨w.heap.size + 1 + 1 + 1, 0, none⟩ (.bool false)).cell? ⟨w.heap.size + 1 + 1 + 1, 0, none⟩ = some (.bool false) := World.cell?_setCell_same' _ _ _ (by rw [cell_same (Below.heap_setCell _ ⟨w.heap.size + 1 + 1, 0, none⟩ .nilIface (w.heap.size + 1 + 1 + 1) (by simp)) 0, h5]; rfl)
    have c2 := cell_kept s3 (grownBy_putObj' _ D (.deferred none)) (fun r e => by cases e; exact ⟨_, hK', rfl⟩)
    have c3 := cell_kept s4 (grownBy_putObj' _ D (.deferred none)) (fun r e => by cases e; exact ⟨_, hK', rfl⟩)
    have hB2 : Below w.heap.size w ((W.setCell ⟨w.heap.size + 1 + 1, 0, none⟩ .nilIface).setCell ⟨w.heap.size + 1 + 1 + 1, 0, none⟩ (.bool false)) := below_set (below_set (below_step hB0 hB) (by omega)) (by omega)
    have hnone := lastT_none hn HYS.out HP.out
    refine ⟨by simp, .inl ⟨_, _, rfl, run_takeDeferred hK', ?_⟩⟩
    refine ⟨.tuple #[.nilIface, .bool false], ?_, .nilIface, by rw [hnone]; rfl, by rw [hnone]; rfl, hB2.trans (belowK_b (w := w) (Nat.le_refl _) _ D _ _ (by omega) hK' rfl rfl)⟩
    simp [results, Tryd.f21, go_sem, c2, c3]
  case stop =>
    rintro D c pre W hD hpre ⟨⟨rfl, ini, last, t, e1, e2, e3, e4, e5, e6⟩, hB⟩ hK
    have HPRE := Lib.hid hpre
    have E1 := Lib.hid e1
    have E2 := Lib.hid e2
    have E3 := Lib.hid e3
    have E4 := Lib.hid e4
    clear hpre e1 e2 e3 e4
    gi_wp2
    have c2 := cell_kept e5 (grownBy_putObj' _ D (.deferred none)) (fun r e => by cases e; exact ⟨_, hK, rfl⟩)
    have c3 := cell_kept e6 (grownBy_putObj' _ D (.deferred none)) (fun r e => by cases e; exact ⟨_, hK, rfl⟩)
    have hbK := belowK_b (w := w) (Nat.le_refl _) W D _ (.deferred none) (by omega) hK rfl rfl
    obtain ⟨k, hk, hpre⟩ := HPRE.out
    rw [E1.out] at hpre
    have hsome := lastT_some hn hk hpre E2.out E3.out E4.out
    have hR : ThR w (encI (xs[last.1]'last.2)) t := HTH.out.2 last.1 _ t (List.getElem?_eq_getElem last.2) E3.out
    have hBF := hB.trans hbK
    refine ⟨by simp, .inl ⟨_, _, rfl, run_takeDeferred hK, ?_⟩⟩
    refine ⟨.tuple #[encI (xs[last.1]'last.2), .bool true], ?_, encI (xs[last.1]'last.2), by rw [hsome]; rfl, by rw [hsome]; exact ThR.below hR hBF, hBF⟩
    simp [results, Tryd.f21, go_sem, c2, c3]
end Go.Proofs.YthkihkkmoknbjaaDoor.Undo
/- The walks of slices.IndexFunc and slices.DeleteFunc at things, and of Stack.Drop. Conditions: at most 2^40 things. -/
namespace Go.Proofs.YthkihkkmoknbjaaDoor.Undo
open Go.RowKit Go.Proofs.YthkihkkmoknbjaaDoorW.PrintWords Go.Proofs.YthkihkkmoknbjaaDoorW.PrintLast Go.Proofs.YthkihkkmoknbjaaDoorW.PrintMore Go.Proofs.YthkihkkmoknbjaaDoor.Rope Go.Proofs.YthkihkkmoknbjaaDoor.PUndoFinds
set_option linter.unusedVariables false
set_option linter.unusedSimpArgs false
abbrev TV := TypeId × Value
/-- What is asked of a predicate on the row's elements, in every world in which I holds. -/
abbrev PredI (xs : List TV) (g : Nat) (lb : Array Value) (p : TV → Bool) (I : World → Prop) : Prop :=
  ∀ (W : World) (x : TV), x ∈ xs → I W → Calls Tryd.prog g (#[Value.iface x.1 x.2] ++ lb) W fun e w' => e = .returned (.bool (p x)) ∧ Below W.heap.size W w'
/-- The first index of which p holds, from j on; -1. -/
def idxI (p : TV → Bool) : List TV → Int → Int
  | [], _ => -1
  | x :: r, j => if p x then j else idxI p r (j + 1)
theorem drop_atI {xs : List TV} {j : Nat} {x : TV} (h : xs[j]? = some x) : xs.drop j = x :: xs.drop (j + 1) := by
  obtain ⟨hl, e⟩ := List.getElem?_eq_some_iff.1 h
  rw [List.drop_eq_getElem_cons hl, e]
set_option maxHeartbeats 800000 in
set_option maxRecDepth 100000 in
theorem indexI (A : Option Addr) (c : Nat) (xs : List TV) (g : Nat) (lb : Array Value) (p : TV → Bool) (w : World) (eg : ∀ args w, (callFunc g args).run Tryd.prog w = .ok (.enter g args) w) (hp : PredI xs g lb p (fun W => Below w.heap.size w W)) (hr : Kd.C kI w A xs.length xs) (hl : xs.length ≤ 1099511627776) :
    Calls Tryd.prog 41 #[.slice A xs.length c, .func (.func g) #[] lb] w fun e w' => e = .returned (.int .i64 (idxI p xs 0)) ∧ Below w.heap.size w w' := by
  have HR := Lib.hid hr
  have HP := Lib.hid hp
  clear hr hp
  go_enter Tryd.func41, Tryd.ntmps41
  go_wp2
  go_loopw [8] (fun s8 wr => ∃ kk : Nat, kk ≤ xs.length ∧ s8 = .int .i64 (kk : Int) ∧ Hid (Below w.heap.size w wr) ∧ Hid (idxI p xs 0 = idxI p (xs.drop kk) kk)) (fun s8 _ => xs.length - cnt s8)
  case atStart => exact ⟨0, Nat.zero_le _, rfl, Lib.hid (Below.refl _ w), Lib.hid rfl⟩
  case round =>
    obtain ⟨kk, hkk, rfl, BW, A1⟩ := hrel
    by_cases hlt : kk < xs.length
    · have d1 : decide ((kk : Int) < (xs.length : Int)) = true := by simp; omega
      have b1 : (0 : Int) ≤ (kk : Int) := by omega
      have b2 : (kk : Int) < (xs.length : Int) := by omega
      obtain ⟨x, hx⟩ : ∃ x, xs[kk]? = some x := ⟨_, List.getElem?_eq_getElem hlt⟩
      obtain ⟨ad, e0, hx0⟩ := at_I (Kd.C_below HR.out BW.out) hx hlt
      subst e0
      have hcall := Lib.hid (HP.out wr x (List.mem_of_getElem? hx) BW.out)
      have D := Lib.hid (drop_atI hx)
      clear hx
      cases hq : p x with
      | true =>
        have Q := Lib.hid hq
        rw [hq] at hcall
        clear hq
        go_wp2_with ((with_reducible refine hcall.out.mono ?_); rintro e w' ⟨rfl, hb'⟩; have HB := Lib.hid hb'; clear hb')
        go_ret
        refine ⟨?_, below_step BW.out HB.out⟩
        rw [A1.out, D.out]
        simp only [idxI, Q.out, if_true]
        rfl
      | false =>
        have Q := Lib.hid hq
        rw [hq] at hcall
        clear hq
        go_wp2_with ((with_reducible refine hcall.out.mono ?_); rintro e w' ⟨rfl, hb'⟩; have HB := Lib.hid hb'; clear hb')
        go_roundw
        case rel =>
          refine ⟨kk + 1, by omega, by go_num, Lib.hid (below_step BW.out HB.out), Lib.hid ?_⟩
          rw [A1.out, D.out]
          simp only [idxI, Q.out, Bool.false_eq_true, if_false]
          rfl
        case measure =>
          simp only [cnt]
          omega
    · have d1 : decide ((kk : Int) < (xs.length : Int)) = false := by simp; omega
      go_wp2
      go_ret
      refine ⟨?_, BW.out⟩
      rw [A1.out, List.drop_of_length_le (by omega)]
      rfl
theorem idxI_miss (p : TV → Bool) : ∀ (xs : List TV) (j : Int), 0 ≤ j → idxI p xs j = -1 → ∀ x ∈ xs, p x = false
  | [], _, _, _ => by simp
  | x :: r, j, hj, h => by
    unfold idxI at h
    split at h
    · omega
    · rename_i hp
      intro y hy
      rcases List.mem_cons.1 hy with rfl | hy
      · simpa using hp
      · exact idxI_miss p r (j + 1) (by omega) h y hy
theorem idxI_hit (p : TV → Bool) : ∀ (xs : List TV) (j : Int), 0 ≤ j → idxI p xs j ≠ -1 → ∃ i : Nat, idxI p xs j = j + i ∧ i < xs.length ∧ (∀ x ∈ xs.take i, p x = false) ∧ (∀ x, xs[i]? = some x → p x = true)
  | [], _, _, h => absurd rfl h
  | x :: r, j, hj, h => by
    unfold idxI at h ⊢
    split
    · rename_i hp
      exact ⟨0, by simp, by simp, by simp, by simp [hp]⟩
    · rename_i hp
      rw [if_neg hp] at h
      obtain ⟨i, h1, h2, h3, h4⟩ := idxI_hit p r (j + 1) (by omega) h
      refine ⟨i + 1, by rw [h1]; omega, by simp; omega, ?_, ?_⟩
      · intro y hy
        rw [List.take_succ_cons] at hy
        rcases List.mem_cons.1 hy with rfl | hy
        · simpa using hp
        · exact h3 y hy
      · intro y hy
        exact h4 y (by simpa using hy)
def DelPost (w : World) (base : Nat) (v : Value) (ys : List TV) (e : Ending) (w' : World) : Prop :=
  ∃ v', e = .returned v' ∧ Kd.R kI 20 w' base (fun _ => True) v' ys ∧ w.grownBy w' v.ownBlock
theorem get_drop {cur xs : List TV} {j : Nat} (h : cur.drop j = xs.drop j) : cur[j]? = xs[j]? := by
  have h1 : (cur.drop j)[0]? = (xs.drop j)[0]? := by rw [h]
  rwa [List.getElem?_drop, List.getElem?_drop, Nat.add_zero] at h1
theorem take_atI {xs : List TV} {j : Nat} {x : TV} (h : xs[j]? = some x) : xs.take (j + 1) = xs.take j ++ [x] := by
  obtain ⟨hl, e⟩ := List.getElem?_eq_some_iff.1 h
  rw [List.take_succ_eq_append_getElem hl, e]
theorem take_set_at {cur : List TV} {i : Nat} {x : TV} (h : i < cur.length) : (cur.set i x).take (i + 1) = cur.take i ++ [x] := by
  rw [take_atI (x := x) (by rw [List.getElem?_set_self h]), List.take_set_of_le (Nat.le_refl _)]
theorem drop_set_at {cur xs : List TV} {i j : Nat} {x : TV} (hij : i < j) (h : cur.drop j = xs.drop j) : (cur.set i x).drop (j + 1) = xs.drop (j + 1) := by
  rw [List.drop_set_of_lt (by omega), ← List.drop_drop, h, List.drop_drop]
theorem filter_hit {xs cur : List TV} {p : TV → Bool} {i j : Nat} {x : TV} (hx : xs[j]? = some x) (hq : p x = true) (h : cur.take i = (xs.take j).filter fun x => !p x) : cur.take i = (xs.take (j + 1)).filter fun x => !p x := by
  rw [take_atI hx, List.filter_append, ← h]
  simp [hq]
theorem filter_miss {xs cur : List TV} {p : TV → Bool} {i j : Nat} {x : TV} (hi : i < cur.length) (hx : xs[j]? = some x) (hq : p x = false) (h : cur.take i = (xs.take j).filter fun x => !p x) : (cur.set i x).take (i + 1) = (xs.take (j + 1)).filter fun x => !p x := by
  rw [take_set_at hi, take_atI hx, List.filter_append, ← h]
  simp [hq]
/-- What holds in every round. -/
structure DelS (xs : List TV) (p : TV → Bool) (I : World → Prop) (base gr c : Nat) (w : World) (i j : Nat) (cur : List TV) (W : World) : Prop where
  len : cur.length = xs.length
  got : cur.take i = (xs.take j).filter fun x => !p x
  rest : cur.drop j = xs.drop j
  row : Kd.R kI 20 W base (fun _ => True) (.slice (some ⟨gr, 0, none⟩) xs.length c) cur
  inv : I W
  grew : w.grownBy W (some gr)
set_option maxHeartbeats 1600000 in
set_option maxRecDepth 100000 in
theorem deleteI (v : Value) (xs : List TV) (g : Nat) (lb : Array Value) (p : TV → Bool) (I : World → Prop) (base : Nat) (w : World) (eg : ∀ args w, (callFunc g args).run Tryd.prog w = .ok (.enter g args) w)
    (hp : PredI xs g lb p I) (hI : I w) (hIb : ∀ W W', I W → W.grownBy W' v.ownBlock → I W') (HO : Kd.R kI 20 w base (fun _ => True) v xs) (hl : xs.length ≤ 1099511627776) :
    Calls Tryd.prog 33 #[v, .func (.func g) #[] lb] w (DelPost w base v (xs.filter fun x => !p x)) := by
  obtain ⟨A, c, rfl⟩ := Kd.R_slice HO
  have hC := Kd.R_reads' HO
  have HX := Lib.hid (indexI A c xs g lb p w eg (fun W x hx hb => hp W x hx (hIb _ _ hI (grown_of_below hb _))) hC.2.2 hl)
  have HR := Lib.hid HO
  have HP := Lib.hid hp
  have HI := Lib.hid hI
  have HIb := Lib.hid hIb
  have HC := Lib.hid hC
  clear HO hC hp hI hIb
  by_cases hi : idxI p xs 0 = -1
  · have hb : (idxI p xs 0 == -1) = true := by simpa using hi
    have Hi := Lib.hid hi
    clear hi
    go_enter Tryd.func33, Tryd.ntmps33
    go_wp2_with ((with_reducible refine HX.out.mono ?_); rintro e w' ⟨rfl, hb'⟩; have HB := Lib.hid hb'; clear hb')
    go_ret
    refine ⟨_, rfl, ?_, grown_of_below HB.out _⟩
    rw [List.filter_eq_self.2 (fun x hx => by rw [idxI_miss p xs 0 (by omega) Hi.out x hx]; rfl)]
    exact Kd.R_below HR.out HB.out
  · obtain ⟨i0, hi0, hlt0, hnone, hsome⟩ := idxI_hit p xs 0 (by omega) hi
    rw [Int.zero_add] at hi0
    have hb : (idxI p xs 0 == -1) = false := by simpa using hi
    obtain ⟨gr, cap, he, hbase, hgr, _⟩ := Kd.R_form HR.out (by omega)
    injection he with e1 e2 e3
    subst e1; subst e3
    rw [hi0] at HX hb
    obtain ⟨x0, hx0⟩ : ∃ x, xs[i0]? = some x := ⟨_, List.getElem?_eq_getElem hlt0⟩
    have S0 : Hid (xs.take i0 = (xs.take (i0 + 1)).filter fun x => !p x) := Lib.hid (filter_hit hx0 (hsome _ hx0) (List.filter_eq_self.2 (fun x hx => by rw [hnone x hx]; rfl)).symm)
    clear hi hi0 hnone hsome e2 hx0
    go_enter Tryd.func33, Tryd.ntmps33
    go_wp2_with ((with_reducible refine HX.out.mono ?_); rintro e w' ⟨rfl, hb'⟩; have HB := Lib.hid hb'; clear hb')
    go_loopw [5, 6] (fun s5 s6 wr => ∃ (i j : Nat) (cur : List TV), s5 = .int .i64 (i : Int) ∧ s6 = .int .i64 (j : Int) ∧ i < j ∧ j ≤ xs.length ∧ Hid (DelS xs p I base gr c w i j cur wr)) (fun _ s6 _ => xs.length - cnt s6)
    case atStart =>
      exact ⟨i0, i0 + 1, xs, rfl, by go_num, by omega, by omega, Lib.hid ⟨rfl, S0.out, rfl, Kd.R_below HR.out HB.out, HIb.out _ _ HI.out (grown_of_below HB.out _), grown_of_below HB.out _⟩⟩
    case round =>
      obtain ⟨i, j, cur, rfl, rfl, hij, hjn, S⟩ := hrel
      by_cases hlt : j < xs.length
      · have d1 : decide ((j : Int) < (xs.length : Int)) = true := by simp; omega
        have b1 : (0 : Int) ≤ (j : Int) := by omega
        have b2 : (j : Int) < (xs.length : Int) := by omega
        have b3 : (0 : Int) ≤ (i : Int) := by omega
        have b4 : (i : Int) < (xs.length : Int) := by omega
        obtain ⟨x, hx⟩ : ∃ x, xs[j]? = some x := ⟨_, List.getElem?_eq_getElem hlt⟩
        have hxc : cur[j]? = some x := (get_drop S.out.rest).trans hx
        obtain ⟨ad, e0, hy0⟩ := at_I (Kd.R_reads' S.out.row).2.2 hxc (by rw [S.out.len]; exact hlt)
        cases e0
        rw [add_plain] at hy0
        have hcall := Lib.hid (HP.out wr x (List.mem_of_getElem? hx) S.out.inv)
        have HXJ := Lib.hid hx
        clear hx hxc
        cases hq : p x with
        | true =>
          have Q := Lib.hid hq
          rw [hq] at hcall
          clear hq
          go_wp2_with ((with_reducible refine hcall.out.mono ?_); rintro e w'' ⟨rfl, hb'⟩; have HB2 := Lib.hid hb'; clear hb')
          go_roundw
          case rel =>
            exact ⟨i, j + 1, cur, rfl, by go_num, by omega, by omega, Lib.hid ⟨S.out.len, filter_hit HXJ.out Q.out S.out.got, by rw [← List.drop_drop, S.out.rest, List.drop_drop], Kd.R_below S.out.row HB2.out, HIb.out _ _ S.out.inv (grown_of_below HB2.out _), World.grownBy.trans S.out.grew (grown_of_below HB2.out _)⟩⟩
          case measure =>
            simp only [cnt]
            omega
        | false =>
          have Q := Lib.hid hq
          rw [hq] at hcall
          clear hq
          go_wp2_with ((with_reducible refine hcall.out.mono ?_); rintro e w'' ⟨rfl, hb'⟩; have HB2 := Lib.hid hb'; have HR2 := Lib.hid (Kd.R_below S.out.row hb'); obtain ⟨hst, hfz⟩ := Kd.R_celln (1, Value.nilIface) HR2.out (i : Int) b3 b4; rw [Int.toNat_natCast] at hst hfz; clear hb')
          have HP3 := Lib.hid (Kd.R_putg HR2.out (i : Int) x)
          rw [Int.toNat_natCast] at HP3
          go_roundw
          case rel =>
            refine ⟨i + 1, j + 1, cur.set i x, by go_num, by go_num, by omega, by omega, Lib.hid ⟨by rw [List.length_set]; exact S.out.len, filter_miss (by rw [S.out.len]; omega) HXJ.out Q.out S.out.got, drop_set_at hij S.out.rest, HP3.out.1, HIb.out _ _ (HIb.out _ _ S.out.inv (grown_of_below HB2.out _)) HP3.out.2, World.grownBy.trans S.out.grew (World.grownBy.trans (grown_of_below HB2.out _) HP3.out.2)⟩⟩
          case measure =>
            simp only [cnt]
            omega
      · have d1 : decide ((j : Int) < (xs.length : Int)) = false := by simp; omega
        obtain rfl : j = xs.length := by omega
        have hil : i ≤ xs.length := by omega
        have HC2 := Lib.hid (Kd.R_reads' S.out.row)
        have hic : i ≤ c := Nat.le_trans hil HC2.out.2.1
        have hfin := Lib.hid (by have e := S.out.got; rw [List.take_length] at e; exact e)
        by_cases hci : c = i
        · subst hci
          obtain ⟨w1, hrun, hR1, hg1, _⟩ := YthkihkkmoknbjaaDoorOwn.run_clear_rows kI 36 20 0 .nilIface Tryd.underlying36 (fun w => by kernel_rfl) rfl (by decide) S.out.row hil (A := some ⟨gr, 0, none⟩) (c2 := 0) (fun h => absurd h (by have := HC2.out.2.1; omega)) (Below.refl base wr)
          have HG1 := Lib.hid hg1
          have HR1 := Lib.hid hR1
          clear hg1 hR1
          go_wp2
          go_ret
          refine ⟨_, rfl, ?_, World.grownBy.trans S.out.grew HG1.out⟩
          rw [← hfin.out]
          exact HR1.out
        · obtain ⟨w1, hrun, hR1, hg1, _⟩ := YthkihkkmoknbjaaDoorOwn.run_clear_rows kI 36 20 0 .nilIface Tryd.underlying36 (fun w => by kernel_rfl) rfl (by decide) S.out.row hil (A := some ⟨gr, i, none⟩) (c2 := c - i) (fun _ => by rw [show kI.sz = 1 from rfl, Nat.mul_one]) (Below.refl base wr)
          have HG1 := Lib.hid hg1
          have HR1 := Lib.hid hR1
          clear hg1 hR1
          go_wp2
          go_ret
          refine ⟨_, rfl, ?_, World.grownBy.trans S.out.grew HG1.out⟩
          rw [← hfin.out]
          exact HR1.out
end Go.Proofs.YthkihkkmoknbjaaDoor.Undo
/- The walk of Stack.Drop. Conditions: at most 2^40 things. -/
namespace Go.Proofs.YthkihkkmoknbjaaDoor.Undo
open Go.RowKit Go.Proofs.YthkihkkmoknbjaaDoorW.PrintWords Go.Proofs.YthkihkkmoknbjaaDoorW.PrintLast Go.Proofs.YthkihkkmoknbjaaDoorW.PrintMore Go.Proofs.YthkihkkmoknbjaaDoor.Rope Go.Proofs.YthkihkkmoknbjaaDoor.PUndoFinds
set_option linter.unusedVariables false
set_option linter.unusedSimpArgs false
/-- The mark that a thing's value bears. -/
def markX (x : TV) : Int := match x.2 with
  | Value.agg a => (match a[1]? with
    | some (Value.int _ m) => m
    | _ => 0)
  | _ => 0
theorem markX_th {w : World} {x : TV} {t : Th} (h : ThR w (encI x) t) : markX x = t.mark := by
  cases t with
  | put d m l =>
    have e : encI x = _ := h
    injection e with e1 e2
    unfold markX
    rw [e2]
    rfl
  | took d m l s =>
    obtain ⟨p, _, e⟩ := h
    injection e with e1 e2
    unfold markX
    rw [e2]
    rfl
/-- What is left of ts when those that bear m are dropped. -/
def dropT (ts : List Th) (m : Int) : List Th := ts.filter fun t => !(t.mark == m)
theorem Ths.filter {w : World} (m : Int) : ∀ (xs : List TV) (ts : List Th), Ths w xs ts → Ths w (xs.filter fun x => !(markX x == m)) (dropT ts m)
  | [], [], _ => ⟨rfl, fun j x t h => by simp at h⟩
  | [], t :: ts, h => by have := h.1; simp at this
  | x :: xs, [], h => by have := h.1; simp at this
  | x :: xs, t :: ts, h => by
    have h0 : ThR w (encI x) t := h.2 0 x t rfl rfl
    have ht : Ths w xs ts := ⟨by have := h.1; simpa using this, fun j x t h1 h2 => h.2 (j + 1) x t h1 h2⟩
    have ih := Ths.filter m xs ts ht
    unfold dropT at ih ⊢
    rw [List.filter_cons, List.filter_cons, markX_th h0]
    split
    · refine ⟨by simp [ih.1], fun j y u h1 h2 => ?_⟩
      cases j with
      | zero =>
        have e1 : x = y := by simpa using h1
        have e2 : t = u := by simpa using h2
        subst e1; subst e2
        exact h0
      | succ j => exact ih.2 j y u (by simpa using h1) (by simpa using h2)
    · exact ih
theorem Ths.at {w : World} {xs : List TV} {ts : List Th} (h : Ths w xs ts) {x : TV} (hx : x ∈ xs) : ∃ t, t ∈ ts ∧ ThR w (encI x) t := by
  obtain ⟨j, hj⟩ := List.getElem?_of_mem hx
  have hl := (List.getElem?_eq_some_iff.1 hj).1
  have h1 := h.1
  exact ⟨ts[j]'(by omega), List.getElem_mem _, h.2 j x _ hj (List.getElem?_eq_getElem (by omega))⟩
set_option maxRecDepth 100000 in
set_option maxHeartbeats 800000 in
theorem drop_pred (x : TV) (t : Th) (b : Nat) (m : Int) (w : World) (h : ThR w (encI x) t) (hc : w.cell? ⟨b, 0, none⟩ = some (.int .i64 m)) :
    Calls Tryd.prog 34 #[.iface x.1 x.2, .pointer (some ⟨b, 0, none⟩)] w fun e w' => e = .returned (.bool (markX x == m)) ∧ Below w.heap.size w w' := by
  rw [markX_th h]
  have H := Lib.hid h
  clear h
  go_enter Tryd.func34, Tryd.ntmps34
  go_wp2_with ((with_reducible refine (mark_calls t (encI x) _ H.out).mono ?_); rintro e w1 ⟨rfl, hb1⟩; have HB1 := Lib.hid hb1; have hc1 := pw_cell_below hb1 hc; clear hb1)
  go_ret
  exact ⟨rfl, HB1.out⟩
theorem blk_newO {w : World} {o : Obj} {g : Nat} (h : g = w.heap.size) : (w.alloc o).heap[g]? = some o := by rw [h]; exact blk_new w o
def RetDrop (ts : List Th) (w : World) (e : Ending) (w' : World) : Prop :=
  ∃ A c, e = .returned (.agg #[.slice A ts.length c]) ∧ Stk w' (.agg #[.slice A ts.length c]) ts ∧ Below w.heap.size w w'
/-- In the world where the filter begins, and in every one in which only the row grew. -/
theorem R_type {W W' : World} {base : Nat} {v : Value} {xs : List TV} (h : Kd.R kI 20 W base (fun _ => True) v xs) (hg : W.grownBy W' v.ownBlock) {t : TypeId} (ht : t ≠ 20) {g : Nat} {cs : Array Value} (hc : W.heap[g]? = some (.cells cs t (0, 0))) : W'.heap[g]? = W.heap[g]? :=
  OwnE.grown (enc := encI) (Kd.own_of_R h) hg ht g cs hc
set_option maxRecDepth 1000000 in
set_option maxHeartbeats 4000000 in
theorem sdrop_calls (A : Option Addr) (n c : Nat) (ts : List Th) (m : Int) (w : World) (h : Stk w (.agg #[.slice A n c]) ts) (hl : ts.length ≤ 1099511627776) :
    Calls Tryd.prog 23 #[.agg #[.slice A n c], .int .i64 m] w (RetDrop (dropT ts m) w) := by
  obtain ⟨A', c', xs, e, hc, hr, hth, _⟩ := h
  injection e with e
  injection e with e
  injection e with e _
  injection e with e1 e2 e3
  subst e1; subst e2; subst e3
  have HR := Lib.hid hr
  have HTH := Lib.hid hth
  have hl2 : xs.length ≤ 1099511627776 := by have := hth.1; omega
  clear hr hth hl
  go_enter Tryd.func23, Tryd.ntmps23
  go_wp2_with fail
  have B0 : Hid (Below w.heap.size w (((w.alloc (.cells #[.slice A xs.length c] 38)).alloc (.cells #[.int .i64 m] 3)).alloc (.cells #[.slice none 0 0] 38))) := Lib.hid (below_alloc (below_alloc (below_alloc (Below.refl _ _) _) _) _)
  have X1 : Hid ((((w.alloc (.cells #[.slice A xs.length c] 38)).alloc (.cells #[.int .i64 m] 3)).alloc (.cells #[.slice none 0 0] 38)).heap[w.heap.size + 1]? = some (.cells #[.int .i64 m] 3 (0, 0))) := Lib.hid (blk_alloc (blk_newO (by simp)) _)
  have X2 : Hid ((((w.alloc (.cells #[.slice A xs.length c] 38)).alloc (.cells #[.int .i64 m] 3)).alloc (.cells #[.slice none 0 0] 38)).heap[w.heap.size + 1 + 1]? = some (.cells #[.slice none 0 0] 38 (0, 0))) := Lib.hid (blk_newO (by simp))
  refine (cloneI A c xs _ (Kd.C_below HR.out B0.out) hc (by omega)).mono ?_
  rintro e w2 ⟨v2, rfl, ho2, hb2⟩
  have B2 := Lib.hid (below_step B0.out hb2)
  have Y1 := Lib.hid (blk_below X1.out hb2)
  have Y2 := Lib.hid (blk_below X2.out hb2)
  have HO2 := Lib.hid (Kd.R_of_own (h1 := fun _ => rfl) (ok := fun _ => True) ho2 (fun _ _ => trivial))
  have TH2 := Lib.hid (HTH.out.below B2.out)
  have LE := Lib.hid B0.out.size
  clear X1 X2 B0 ho2 hb2
  go_wp2_with fail
  go_at_call 33
  refine (deleteI v2 xs 34 #[.pointer (some ⟨w.heap.size + 1, 0, none⟩)] (fun x => markX x == m) (fun W => w2.grownBy W v2.ownBlock) _ w2 (Go.Proofs.enters_of Tryd.func34 (by kernel_rfl) rfl) ?hp ?hI ?hIb HO2.out hl2).mono ?_
  case hp =>
    intro W x hx hg
    obtain ⟨t, _, ht⟩ := TH2.out.at hx
    exact drop_pred x t _ m W (ht.move (fun g cs hc => R_type HO2.out hg (by decide) hc)) (blk_cell ((R_type HO2.out hg (by decide) Y1.out).trans Y1.out) 0)
  case hI => exact ⟨rfl, rfl, rfl, Nat.le_refl _, fun _ _ _ => rfl⟩
  case hIb => exact fun W W' h1 h2 => World.grownBy.trans h1 h2
  rintro e w3 ⟨v3, rfl, ho3, hg3⟩
  have Z2 := Lib.hid ((R_type HO2.out hg3 (by decide) Y2.out).trans Y2.out)
  have TH3 := Lib.hid (Ths.filter m xs ts (TH2.out.move (fun g cs hc => R_type HO2.out hg3 (by decide) hc)))
  have B3 := Lib.hid (pw_below_grown B2.out _ B2.out.size hg3 (fun k hk => Nat.le_trans LE.out (own_base (Kd.own_of_R HO2.out) k hk)))
  have HO3 := Lib.hid ho3
  obtain ⟨A3, c3, e3⟩ := Kd.R_slice ho3
  subst e3
  clear Y1 Y2 TH2 LE B2 HO2 ho3 hg3
  have c2 := blk_cell Z2.out 0
  have z2 := blk_frozen Z2.out 0
  go_wp2
  refine bodyPost_ret (results_cell_row rfl _ _ (w.heap.size + 1 + 1) 38 #[.slice A3 (xs.filter fun x => !(markX x == m)).length c3] (0, 0) _ rfl (blk_put Z2.out 0 _ rfl) Tryd.underlying38 rfl (by kernel_rfl)) rfl ?_
  refine ⟨A3, c3, ?_, ?_, below_set B3.out (by omega)⟩
  · rw [TH3.out.1]
  · rw [TH3.out.1]
    exact own_stk (OwnE.move (enc := encI) (Kd.own_of_R HO3.out) (set_type Z2.out (by decide) _ _)) (TH3.out.move (set_type Z2.out (by decide) _ _))
end Go.Proofs.YthkihkkmoknbjaaDoor.Undo
/- What the reference's Last and Drop answer, in plain Lean. -/
namespace Go.Proofs.YthkihkkmoknbjaaDoor.Undo
open Go.RowKit Go.Proofs.YthkihkkmoknbjaaDoorPl Go.Proofs.YthkihkkmoknbjaaDoorW.PrintWords Go.Proofs.YthkihkkmoknbjaaDoorW.PrintLast Go.Proofs.YthkihkkmoknbjaaDoorW.PrintMore Go.Proofs.YthkihkkmoknbjaaDoor.Rope Go.Proofs.YthkihkkmoknbjaaDoor.PUndoFinds
set_option linter.unusedVariables false
set_option linter.unusedSimpArgs false
theorem doc_of (x : U) : (thOf x).doc = x.f1 := by
  unfold thOf
  split <;> rfl
theorem mark_of (x : U) : (thOf x).mark = x.f2 := by
  unfold thOf
  split <;> rfl
/-- The uppermost of a document. -/
def lastX (xs : List U) (d : Int) : Option U := xs.reverse.find? fun x => x.f1 == d
theorem lastT_map (xs : List U) (d : Int) : lastT (xs.map thOf) d = (lastX xs d).map thOf := by
  unfold lastT lastX
  rw [← List.map_reverse, List.find?_map]
  congr 1
  congr 1
  funext x
  simp [doc_of]
theorem lastX_mem {xs : List U} {d : Int} {x : U} (h : lastX xs d = some x) : x ∈ xs := List.mem_reverse.1 (List.mem_of_find?_eq_some h)
/-- What is left. -/
def dropX (xs : List U) (m : Int) : List U := xs.filter fun x => !(x.f2 == m)
theorem dropT_map (xs : List U) (m : Int) : dropT (xs.map thOf) m = (dropX xs m).map thOf := by
  unfold dropT dropX
  rw [List.filter_map]
  congr 1
  congr 1
  funext x
  simp [mark_of]
theorem dropX_mem {xs : List U} {m : Int} {x : U} (h : x ∈ dropX xs m) : x ∈ xs := (List.mem_filter.1 h).1
theorem dropX_len (xs : List U) (m : Int) : (dropX xs m).length ≤ xs.length := List.length_filter_le _ _
theorem take_at {xs : List U} {j : Nat} {x : U} (h : xs[j]? = some x) : xs.take (j + 1) = xs.take j ++ [x] := by
  obtain ⟨hl, e⟩ := List.getElem?_eq_some_iff.1 h
  rw [List.take_succ_eq_append_getElem hl, e]
def lastR (o : Option U) : Int × Int × Int × Int × ByteArray × Bool := match o with
  | some x => (x.f0, x.f1, x.f2, x.f3, x.f4, true)
  | none => (0, 0, 0, 0, ⟨#[]⟩, false)
theorem last_l0 (xs : List U) (d : Int) (hn : xs.length ≤ 2932031007402) : ∀ (i : Nat), i ≤ xs.length → Ev (fun k => chancelref07_Last.l0 k xs d ((i : Int) - 1)) (lastR (lastX (xs.take i) d))
  | 0, _ => ev_next (f := fun _ => some (0, 0, 0, 0, (⟨#[]⟩ : ByteArray), false)) (fun k => by simp only [chancelref07_Last.l0]; rw [if_neg (by omega)]) (by simpa [lastX, lastR] using Ev.now _)
  | i + 1, hi => by
    obtain ⟨x, hx⟩ : ∃ x, xs[i]? = some x := ⟨_, List.getElem?_eq_getElem (by omega)⟩
    have e : (((i + 1 : Nat) : Int) - 1) = (i : Int) := by omega
    have el : lastX (xs.take (i + 1)) d = if x.f1 = d then some x else lastX (xs.take i) d := by
      unfold lastX
      rw [take_at hx, List.reverse_append]
      by_cases h : x.f1 = d <;> simp [h]
    rw [e, el]
    have W1 : wrap64 ((i : Int) - 1) = (i : Int) - 1 := wrap_id (by omega) (by omega)
    by_cases h : x.f1 = d
    · rw [if_pos h]
      refine ev_next (f := fun _ => some (x.f0, x.f1, x.f2, x.f3, x.f4, true)) (fun k => ?_) (Ev.now _)
      simp only [chancelref07_Last.l0, rd_at hx]
      rw [if_pos (by omega), if_pos (by omega), if_pos (by omega), if_pos h]
    · rw [if_neg h]
      refine ev_next (fun k => ?_) (last_l0 xs d hn i (by omega))
      simp only [chancelref07_Last.l0, rd_at hx]
      rw [if_pos (by omega), if_pos (by omega), if_pos (by omega), if_neg h, W1]
theorem last_ev (xs : List U) (d : Int) (hn : xs.length ≤ 2932031007402) : Ev (fun k => chancelref07_Last.f k xs d) (lastR (lastX xs d)) := by
  have h := last_l0 xs d hn xs.length (Nat.le_refl _)
  rw [List.take_length] at h
  refine Ev.congr (fun k => ?_) h
  unfold chancelref07_Last.f
  rw [wrap_id (by omega) (by omega)]
theorem drop_l0 (xs : List U) (m : Int) (hn : xs.length ≤ 1099511627776) : ∀ (e i : Nat), xs.length - i = e → i ≤ xs.length → Ev (fun k => chancelref07_Drop.l0 k xs m (dropX (xs.take i) m) (i : Int)) (dropX xs m)
  | 0, i, he, hi => by
    have : i = xs.length := by omega
    subst this
    rw [List.take_length]
    exact ev_next (f := fun _ => some (dropX xs m)) (fun k => by simp only [chancelref07_Drop.l0]; rw [if_neg (by omega)]) (Ev.now _)
  | e + 1, i, he, hi => by
    obtain ⟨x, hx⟩ : ∃ x, xs[i]? = some x := ⟨_, List.getElem?_eq_getElem (by omega)⟩
    have W1 := wrap_succ (i := i) (by omega)
    have ed : dropX (xs.take (i + 1)) m = if x.f2 = m then dropX (xs.take i) m else dropX (xs.take i) m ++ [x] := by
      unfold dropX
      rw [take_at hx, List.filter_append]
      by_cases h : x.f2 = m <;> simp [h]
    have hlen : (dropX (xs.take i) m).length < 2932031007402 := by
      have := dropX_len (xs.take i) m
      rw [List.length_take] at this
      omega
    have ih := drop_l0 xs m hn e (i + 1) (by omega) (by omega)
    rw [ed] at ih
    by_cases h : x.f2 = m
    · rw [if_pos h] at ih
      refine ev_next (fun k => ?_) ih
      simp only [chancelref07_Drop.l0, rd_at hx]
      rw [if_pos (by omega), if_pos (by omega), if_pos h, W1]
    · rw [if_neg h] at ih
      refine ev_next (fun k => ?_) ih
      simp only [chancelref07_Drop.l0, rd_at hx]
      rw [if_pos (by omega), if_pos (by omega), if_neg h, if_pos hlen, W1]
theorem drop_ev (xs : List U) (m : Int) (hn : xs.length ≤ 1099511627776) : Ev (fun k => chancelref07_Drop.f k xs m) (dropX xs m) := drop_l0 xs m hn _ 0 rfl (by omega)
end Go.Proofs.YthkihkkmoknbjaaDoor.Undo
/- The walk of the law UndoFinds: it answers true. Conditions: the sizes that every row has; Go's two tables of utf8 as they are laid. -/
namespace Go.Proofs.YthkihkkmoknbjaaDoor.Undo
open Go.RowKit Go.Proofs.YthkihkkmoknbjaaDoorW.PrintWords Go.Proofs.YthkihkkmoknbjaaDoorW.PrintLast Go.Proofs.YthkihkkmoknbjaaDoorW.PrintMore Go.Proofs.YthkihkkmoknbjaaDoor.Rope Go.Proofs.YthkihkkmoknbjaaDoor.PUndoFinds
set_option linter.unusedVariables false
set_option linter.unusedSimpArgs false
attribute [local go_sem] max2_int min2_int max_two min_two
theorem plain1 {x : U} (h : okU x) : plainTh (thOf x) = x := by
  have := plain_of (xs := [x]) (fun y hy => by rw [List.mem_singleton.1 hy]; exact h)
  simpa using this
theorem plainX {w : World} {v : Value} {x : U} (hok : okU x) (h : ThR w v (thOf x)) : Calls Tryd.prog 20 #[v] w (RetPl x true w) := by
  have hp : ∀ t, ThR w v t → Calls Tryd.prog 20 #[v] w (RetPl (plainTh t) true w) := by
    intro t h
    cases t with
    | put d m l => have e : v = _ := h; subst e; exact plainV_put d m l w
    | took d m l s => obtain ⟨p, hp, e⟩ := h; subst e; exact plainV_took d m l p s w hp
  have := hp _ h
  rw [plain1 hok] at this
  exact this
def RetSome (t : Th) (w : World) (e : Ending) (w' : World) : Prop := ∃ y : TypeId × Value, e = .returned (.tuple #[.iface y.1 y.2, .bool true]) ∧ ThR w' (encI y) t ∧ Below w.heap.size w w'
def RetNone (w : World) (e : Ending) (w' : World) : Prop := e = .returned (.tuple #[.nilIface, .bool false]) ∧ Below w.heap.size w w'
theorem last_some (A : Option Addr) (n c : Nat) (ts : List Th) (d : Int) (t : Th) (w : World) (h : Stk w (.agg #[.slice A n c]) ts) (hl : ts.length ≤ 1099511627776) (ht : lastT ts d = some t) :
    Calls Tryd.prog 21 #[.agg #[.slice A n c], .int .i64 d] w (RetSome t w) := by
  refine (last_calls A n c ts d w h hl).mono ?_
  rintro e w' ⟨v, rfl, hv, hb⟩
  rw [ht] at hv ⊢
  obtain ⟨y, rfl⟩ := ThR.form hv
  exact ⟨y, rfl, hv, hb⟩
theorem last_none (A : Option Addr) (n c : Nat) (ts : List Th) (d : Int) (w : World) (h : Stk w (.agg #[.slice A n c]) ts) (hl : ts.length ≤ 1099511627776) (ht : lastT ts d = none) :
    Calls Tryd.prog 21 #[.agg #[.slice A n c], .int .i64 d] w (RetNone w) := by
  refine (last_calls A n c ts d w h hl).mono ?_
  rintro e w' ⟨v, rfl, hv, hb⟩
  rw [ht] at hv ⊢
  have e : v = .nilIface := hv
  subst e
  exact ⟨rfl, hb⟩
theorem sdrop_len (A : Option Addr) (n c : Nat) (ts ts' : List Th) (m : Int) (k : Nat) (w : World) (h : Stk w (.agg #[.slice A n c]) ts) (hl : ts.length ≤ 1099511627776) (ht : dropT ts m = ts') (hk : ts'.length = k) :
    Calls Tryd.prog 23 #[.agg #[.slice A n c], .int .i64 m] w fun e w' => ∃ A1 c1, e = .returned (.agg #[.slice A1 k c1]) ∧ Stk w' (.agg #[.slice A1 k c1]) ts' ∧ Below w.heap.size w w' := by
  refine (sdrop_calls A n c ts m w h hl).mono ?_
  rintro e w' ⟨A1, c1, rfl, hs, hb⟩
  rw [ht] at hs ⊢
  rw [hk] at hs ⊢
  exact ⟨A1, c1, rfl, hs, hb⟩
def xa : U := ⟨1, 1, 2, 0, ⟨#[]⟩⟩
def xb : U := ⟨1, 1, 3, 0, ⟨#[]⟩⟩
theorem xab_ok : ∀ x ∈ [xa, xb], okU x := by
  intro x hx
  have h0 : Lib.validD ([] : List UInt8) = true := rfl
  rcases List.mem_cons.1 hx with rfl | hx
  · exact ⟨h0, .inl ⟨rfl, rfl⟩⟩
  · rw [List.mem_singleton.1 hx]; exact ⟨h0, .inl ⟨rfl, rfl⟩⟩
theorem xab_sz : ∀ x ∈ [xa, xb], x.f4.size ≤ 1099511627776 := by
  intro x hx
  rcases List.mem_cons.1 hx with rfl | hx
  · decide
  · rw [List.mem_singleton.1 hx]; decide
theorem C_two {W : World} {g : Nat} {x y : U} (h : W.heap[g]? = some (.cells #[.int .i64 x.f0, .int .i64 x.f1, .int .i64 x.f2, .int .i64 x.f3, .string x.f4, .int .i64 y.f0, .int .i64 y.f1, .int .i64 y.f2, .int .i64 y.f3, .string y.f4] 23 (0, 0))) : Kd.C k23 W (some ⟨g, 0, none⟩) 2 [x, y] := by
  refine ⟨rfl, by decide, fun _ => ⟨_, rfl, fun j p hj => ?_⟩⟩
  have hs : k23.sz = 5 := rfl
  match j, hj with
  | 0, hj =>
    simp only [List.getElem?_cons_zero, Option.some.injEq] at hj
    subst hj
    refine ⟨_, rfl, k23_mk W x, fun i u hu => ?_⟩
    rw [add_plain, hs, blk_cell h]
    match i, hu with
    | 0, hu => simpa using hu
    | 1, hu => simpa using hu
    | 2, hu => simpa using hu
    | 3, hu => simpa using hu
    | 4, hu => simpa using hu
    | i + 5, hu => simp at hu
  | 1, hj =>
    simp only [List.getElem?_cons_succ, List.getElem?_cons_zero, Option.some.injEq] at hj
    subst hj
    refine ⟨_, rfl, k23_mk W y, fun i u hu => ?_⟩
    rw [add_plain, hs, blk_cell h]
    match i, hu with
    | 0, hu => simpa using hu
    | 1, hu => simpa using hu
    | 2, hu => simpa using hu
    | 3, hu => simpa using hu
    | 4, hu => simpa using hu
    | i + 5, hu => simp at hu
  | j + 2, hj => simp at hj
/-- What holds where a stack is kept. -/
structure FS (w : World) (g : Nat) (A : Option Addr) (n c : Nat) (ts : List Th) (W : World) : Prop where
  b : Below w.heap.size w W
  h : W.heap[g]? = some (.cells #[.slice A n c] 38 (0, 0))
  s : Stk W (.agg #[.slice A n c]) ts
theorem FS.next {w W W' : World} {g : Nat} {A : Option Addr} {n c : Nat} {ts : List Th} (h : FS w g A n c ts W) (hb : Below W.heap.size W W') : FS w g A n c ts W' :=
  ⟨below_step h.b hb, blk_below h.h hb, h.s.below hb⟩
set_option maxRecDepth 1000000 in
set_option maxHeartbeats 8000000 in
theorem undoFinds_walk (A : Option Addr) (c : Nat) (xs : List U) (d m : Int) (w : World) (hT : Tabs w) (hr : Kd.C k23 w A xs.length xs) (hc : xs.length ≤ c) (hn : xs.length ≤ 2932031007402) (hz : ∀ x ∈ xs, x.f4.size ≤ 140737488351232) :
    Calls Tryd.prog 7 #[.slice A xs.length c, .int .i64 d, .int .i64 m] w fun e w' => e = .returned (.bool true) ∧ Below w.heap.size w w' := by
  obtain ⟨bs, hbs, hsm⟩ := small_ev xs hn hz
  obtain ⟨k1, hk1⟩ := Go.Proofs.YthkihkkmoknbjaaDoorW.PrintWords.Ev.rounds hbs
  have HT := Lib.hid hT
  have HR := Lib.hid hr
  have K1 := Lib.hid hk1
  have SM := Lib.hid hsm
  clear hT hr hz hbs hk1 hsm
  go_enter Tryd.func7, Tryd.ntmps7
  go_wp2_with fail
  have B0 : Hid (Below w.heap.size w (w.alloc (.cells #[.int .i64 1, .int .i64 1, .int .i64 2, .int .i64 0, .string ⟨#[]⟩, .int .i64 1, .int .i64 1, .int .i64 3, .int .i64 0, .string ⟨#[]⟩] 23))) := Lib.hid (below_alloc (Below.refl _ _) _)
  refine (load_good (some ⟨w.heap.size, 0, none⟩) 2 [xa, xb] _ (HT.out.below B0.out) (C_two (blk_new w _)) xab_sz (by decide) xab_ok).mono ?_
  rintro e w1 ⟨A1, c1, rfl, hs1, hb1⟩
  have S1 := Lib.hid hs1
  have B1 := Lib.hid (below_step B0.out hb1)
  clear hs1 hb1 B0
  go_upto_region 2 with (first | ((with_reducible refine gate_dst (N := 7) rfl ?_); refine box_event ?hg (N := 7) ?hd (cs := #[.slice none 0 0]) (t := 38) ?hr ?_; (case hd => rfl); (case hg => rfl); (case hr => first | (go_simp; done) | (go_simp; rfl)); intro gS hgS wS hxS hbS; have GA := Lib.hid (show w.heap.size ≤ gS by rw [hgS]; exact B1.out.size); have GB := Lib.hid (show w1.heap.size ≤ gS by rw [hgS]; exact Nat.le_refl _); have BA := Lib.hid hbS; have XA := Lib.hid hxS; have y0 := (blk_cell hxS 0).trans rfl; have z0 := blk_frozen hxS 0; clear hgS hxS hbS))
  refine gen2 (φ := fun W => Code.wp _ _ _ _ W) (P := fun W => FS w gS A1 2 c1 ([xa, xb].map thOf) W) ⟨below_set (below_step B1.out BA.out) GA.out, blk_put XA.out 0 _ rfl, S1.out.below (below_set BA.out GB.out)⟩ ?_
  rintro V hV
  have PV := Lib.hid hV
  have c7_ : V.cell? ⟨gS, 0, none⟩ = some (.slice A1 2 c1) := blk_cell hV.h 0
  have GS := GA
  clear hV y0 z0 XA BA GA GB S1 B1
  go_wp2_with fail
  (go_at_call 21; refine (last_some A1 2 c1 _ 1 (thOf xb) _ PV.out.s (by decide) rfl).mono ?_; rintro e w2 ⟨y2, rfl, hy2, hb2⟩)
  have P2 := Lib.hid (PV.out.next hb2)
  have Y2 := Lib.hid hy2
  clear hy2 hb2 c7_ PV
  go_wp2_with fail
  (go_at_call 20; refine (plainX (x := xb) (xab_ok xb (by simp)) Y2.out).mono ?_; rintro e w3 ⟨rfl, hb3⟩)
  have P3 := Lib.hid (P2.out.next hb3)
  clear hb3 Y2 P2
  go_upto_region 4 with (first | ((with_reducible refine gate_dst (N := 11) rfl ?_); refine box_event ?hg (N := 11) ?hd (cs := #[.int .i64 0, .int .i64 0, .int .i64 0, .int .i64 0, .string ByteArray.empty]) (t := 23) ?hr ?_; (case hd => rfl); (case hg => rfl); (case hr => first | (go_simp; done) | (go_simp; rfl)); intro gP hgP wP hxP hbP; have GP := Lib.hid (show w3.heap.size ≤ gP by rw [hgP]; exact Nat.le_refl _); have BP := Lib.hid hbP; have XP := Lib.hid hxP; have y0 := (blk_cell hxP 0).trans rfl; have y1 := (blk_cell hxP 1).trans rfl; have y2 := (blk_cell hxP 2).trans rfl; have y3 := (blk_cell hxP 3).trans rfl; have y4 := (blk_cell hxP 4).trans rfl; have z0 := blk_frozen hxP 0; have z1 := blk_frozen hxP 1; have z2 := blk_frozen hxP 2; have z3 := blk_frozen hxP 3; have z4 := blk_frozen hxP 4; clear hgP hxP hbP))
  refine gen2 (φ := fun W => Code.wp _ _ _ _ W) (P := fun W => FS w gS A1 2 c1 ([xa, xb].map thOf) W ∧ W.heap[gP]? = some (.cells (ldCells xb) 23 (0, 0))) ⟨P3.out.next (below_set (below_set (below_set (below_set (below_set BP.out GP.out) GP.out) GP.out) GP.out) GP.out), by simpa using blk_set (blk_set (blk_set (blk_set (blk_set XP.out 0 (.int .i64 xb.f0)) 1 (.int .i64 xb.f1)) 2 (.int .i64 xb.f2)) 3 (.int .i64 xb.f3)) 4 (.string xb.f4)⟩ ?_
  clear y0 y1 y2 y3 y4 z0 z1 z2 z3 z4 XP BP GP P3
  rintro V4 ⟨h4, hx4⟩
  have P4 := Lib.hid h4
  have a0 : V4.cell? ⟨gP, 0, none⟩ = some (.int .i64 1) := blk_cell hx4 0
  have a1 : V4.cell? ⟨gP, 1, none⟩ = some (.int .i64 1) := blk_cell hx4 1
  have a2 : V4.cell? ⟨gP, 2, none⟩ = some (.int .i64 3) := blk_cell hx4 2
  have a3 : V4.cell? ⟨gP, 3, none⟩ = some (.int .i64 0) := blk_cell hx4 3
  have a4 : V4.cell? ⟨gP, 4, none⟩ = some (.string ⟨#[]⟩) := blk_cell hx4 4
  clear h4 hx4
  go_upto_region 6 with (fail)
  clear a0 a1 a2 a3 a4
  go_wp2_with fail
  (go_at_call 16; refine (chancellaw07_small.calls k1 A c xs bs _ (Kd.C_below HR.out P4.out.b) hc K1.out).mono ?_; rintro e w5 ⟨rfl, hb5⟩)
  have P5 := Lib.hid (P4.out.next hb5)
  clear hb5 P4
  cases bs with
  | false =>
    go_wp2
    go_ret
    exact ⟨rfl, P5.out.b⟩
  | true =>
    obtain ⟨hl60, hz2⟩ := SM.out rfl
    have hn2 : xs.length ≤ 1099511627776 := by omega
    have hz3 := Lib.hid (show ∀ x ∈ xs, x.f4.size ≤ 1099511627776 from fun x hx => by have := hz2 x hx; omega)
    obtain ⟨k2, hk2⟩ := Go.Proofs.YthkihkkmoknbjaaDoorW.PrintWords.Ev.rounds (refRightU_ev xs hn (fun x hx => by have := hz3.out x hx; omega))
    have K2 := Lib.hid hk2
    clear hz2 hk2
    cases hb : okB xs with
    | false =>
      rw [hb] at K2
      clear hb
      go_wp2_with fail
      (go_at_call 10; refine (chancelref07_Right.calls k2 A c xs false _ (Kd.C_below HR.out P5.out.b) hc K2.out).mono ?_; rintro e w6 ⟨rfl, hb6⟩)
      have P6_ := Lib.hid (P5.out.next hb6)
      clear hb6
      go_wp2
      go_ret
      exact ⟨rfl, P6_.out.b⟩
    | true =>
      rw [hb] at K2
      have OK := Lib.hid (okB_true.1 hb)
      clear hb
      go_wp2_with fail
      (go_at_call 10; refine (chancelref07_Right.calls k2 A c xs true _ (Kd.C_below HR.out P5.out.b) hc K2.out).mono ?_; rintro e w6 ⟨rfl, hb6⟩)
      have P6_ := Lib.hid (P5.out.next hb6)
      clear hb6 P5
      go_wp2_with fail
      (go_at_call 14; refine (load_good A c xs _ (HT.out.below P6_.out.b) (Kd.C_below HR.out P6_.out.b) hz3.out hn2 OK.out).mono ?_; rintro e w7 ⟨A7, c7, rfl, hs7, hb7⟩)
      have P7 := Lib.hid (P6_.out.next hb7)
      have S7 := Lib.hid hs7
      have c7_ : w7.cell? ⟨gS, 0, none⟩ = some (.slice A1 2 c1) := blk_cell P7.out.h 0
      have z7_ := blk_frozen P7.out.h 0
      clear hb7 hs7 P6_
      go_upto_region 9 with (fail)
      refine gen2 (φ := fun W => Code.wp _ _ _ _ W) (P := fun W => FS w gS A7 xs.length c7 (xs.map thOf) W) ⟨below_set P7.out.b GS.out, blk_put P7.out.h 0 _ rfl, S7.out.move (set_type P7.out.h (by decide) _ _) (set_type P7.out.h (by decide) _ _)⟩ ?_
      clear c7_ z7_ S7 P7
      rintro V8 hV8
      have P8 := Lib.hid hV8
      have LL : Hid ((xs.map thOf).length ≤ 1099511627776) := Lib.hid (by simpa using hn2)
      have c8_ : V8.cell? ⟨gS, 0, none⟩ = some (.slice A7 xs.length c7) := blk_cell hV8.h 0
      clear hV8
      obtain ⟨k3, hk3⟩ := Go.Proofs.YthkihkkmoknbjaaDoorW.PrintWords.Ev.rounds (last_ev xs d hn)
      obtain ⟨k4, hk4⟩ := Go.Proofs.YthkihkkmoknbjaaDoorW.PrintWords.Ev.rounds (drop_ev xs m hn2)
      obtain ⟨k6, hk6⟩ := Go.Proofs.YthkihkkmoknbjaaDoorW.PrintWords.Ev.rounds (same_ev xs hn)
      obtain ⟨ds, hds⟩ : ∃ ds, ds = dropX xs m := ⟨_, rfl⟩
      have DT : Hid (dropT (xs.map thOf) m = ds.map thOf) := Lib.hid (by rw [hds]; exact dropT_map xs m)
      have DP : Hid ((ds.map thOf).map plainTh = ds) := Lib.hid (plain_of (fun x hx => by rw [hds] at hx; exact OK.out x (dropX_mem hx)))
      have DL : ds.length ≤ 1099511627776 := by rw [hds]; have := dropX_len xs m; omega
      have OKP := Lib.hid (plain_of OK.out)
      rw [← hds] at hk4
      obtain ⟨k5, hk5⟩ := Go.Proofs.YthkihkkmoknbjaaDoorW.PrintWords.Ev.rounds (same_ev ds (by omega))
      have K4 := Lib.hid hk4
      have K5 := Lib.hid hk5
      have K6 := Lib.hid hk6
      have LT := Lib.hid (lastT_map xs d)
      clear hds hk4 hk5 hk6
      cases hlx : lastX xs d with
      | none =>
        rw [hlx] at hk3 LT
        have K3 : Hid (chancelref07_Last.f k3 xs d = some (0, 0, 0, 0, ⟨#[]⟩, false)) := Lib.hid hk3
        clear hlx hk3
        go_wp2_with fail
        (go_at_call 21; refine (last_none A7 xs.length c7 _ d _ P8.out.s LL.out LT.out).mono ?_; rintro e w9 ⟨rfl, hb9⟩)
        have P9 := Lib.hid (P8.out.next hb9)
        skip
        clear hb9 c8_ P8
        go_wp2_with fail
        (go_at_call 22; refine (chancelref07_Last.calls k3 A c xs d 0 0 0 0 ⟨#[]⟩ false _ (Kd.C_below HR.out P9.out.b) hc K3.out).mono ?_; rintro e w10 ⟨rfl, hb10⟩)
        have P10 := Lib.hid (P9.out.next hb10)
        skip
        clear hb10 P9
        go_upto_region 11 with (first | ((with_reducible refine gate_dst (N := 15) rfl ?_); refine box_event ?hg (N := 15) ?hd (cs := #[.int .i64 0, .int .i64 0, .int .i64 0, .int .i64 0, .string ByteArray.empty]) (t := 23) ?hr ?_; (case hd => rfl); (case hg => rfl); (case hr => first | (go_simp; done) | (go_simp; rfl)); intro gM hgM wM hxM hbM; have GM := Lib.hid (show w10.heap.size ≤ gM by rw [hgM]; exact Nat.le_refl _); have BM := Lib.hid hbM; have XM := Lib.hid hxM; have y0 := (blk_cell hxM 0).trans rfl; have y1 := (blk_cell hxM 1).trans rfl; have y2 := (blk_cell hxM 2).trans rfl; have y3 := (blk_cell hxM 3).trans rfl; have y4 := (blk_cell hxM 4).trans rfl; have z0 := blk_frozen hxM 0; have z1 := blk_frozen hxM 1; have z2 := blk_frozen hxM 2; have z3 := blk_frozen hxM 3; have z4 := blk_frozen hxM 4; clear hgM hxM hbM))
        refine gen2 (φ := fun W => Code.wp _ _ _ _ W) (P := fun W => Below w10.heap.size w10 W ∧ W.heap[gM]? = some (.cells (ldCells zU) 23 (0, 0))) ⟨below_set (below_set (below_set (below_set (below_set BM.out GM.out) GM.out) GM.out) GM.out) GM.out, by simpa [zU] using blk_set (blk_set (blk_set (blk_set (blk_set XM.out 0 (.int .i64 0)) 1 (.int .i64 0)) 2 (.int .i64 0)) 3 (.int .i64 0)) 4 (.string ⟨#[]⟩)⟩ ?_
        clear y0 y1 y2 y3 y4 z0 z1 z2 z3 z4 XM BM GM
        rintro V11 ⟨hb11, hx11⟩
        have P11 := Lib.hid (P10.out.next hb11)
        have XM := Lib.hid hx11
        skip
        clear hb11 hx11 P10
        go_wp2_with fail
        (go_at_call 20; refine (plainV_none _).mono ?_; rintro e w12 ⟨rfl, hb12⟩)
        have P12 := Lib.hid (P11.out.next hb12)
        have XM12 := Lib.hid (blk_below XM.out hb12)
        clear hb12 P11 XM
        go_upto_region 12 with (first | ((with_reducible refine gate_dst (N := 17) rfl ?_); refine box_event ?hg (N := 17) ?hd (cs := #[.int .i64 0, .int .i64 0, .int .i64 0, .int .i64 0, .string ByteArray.empty]) (t := 23) ?hr ?_; (case hd => rfl); (case hg => rfl); (case hr => first | (go_simp; done) | (go_simp; rfl)); intro gN hgN wN hxN hbN; have GN := Lib.hid (show w12.heap.size ≤ gN by rw [hgN]; exact Nat.le_refl _); have BN := Lib.hid hbN; have XN := Lib.hid hxN; have y0 := (blk_cell hxN 0).trans rfl; have y1 := (blk_cell hxN 1).trans rfl; have y2 := (blk_cell hxN 2).trans rfl; have y3 := (blk_cell hxN 3).trans rfl; have y4 := (blk_cell hxN 4).trans rfl; have z0 := blk_frozen hxN 0; have z1 := blk_frozen hxN 1; have z2 := blk_frozen hxN 2; have z3 := blk_frozen hxN 3; have z4 := blk_frozen hxN 4; clear hgN hxN hbN))
        refine gen2 (φ := fun W => Code.wp _ _ _ _ W) (P := fun W => Below w12.heap.size w12 W ∧ W.heap[gN]? = some (.cells (ldCells zU) 23 (0, 0))) ⟨below_set (below_set (below_set (below_set (below_set BN.out GN.out) GN.out) GN.out) GN.out) GN.out, by simpa [zU] using blk_set (blk_set (blk_set (blk_set (blk_set XN.out 0 (.int .i64 0)) 1 (.int .i64 0)) 2 (.int .i64 0)) 3 (.int .i64 0)) 4 (.string ⟨#[]⟩)⟩ ?_
        clear y0 y1 y2 y3 y4 z0 z1 z2 z3 z4 XN BN GN
        rintro V13 ⟨hb13, hx13⟩
        have P13 := Lib.hid (P12.out.next hb13)
        have hm13 := blk_below XM12.out hb13
        have a0 := (blk_cell hx13 0).trans rfl
        have a1 := (blk_cell hx13 1).trans rfl
        have a2 := (blk_cell hx13 2).trans rfl
        have a3 := (blk_cell hx13 3).trans rfl
        have a4 := (blk_cell hx13 4).trans rfl
        have b0 := (blk_cell hm13 0).trans rfl
        have b1 := (blk_cell hm13 1).trans rfl
        have b2 := (blk_cell hm13 2).trans rfl
        have b3 := (blk_cell hm13 3).trans rfl
        have b4 := (blk_cell hm13 4).trans rfl
        have c13_ : V13.cell? ⟨gS, 0, none⟩ = some (.slice A7 xs.length c7) := blk_cell P13.out.h 0
        clear hb13 hx13 P12 XM12 hm13
        go_upto_region 14 with (fail)
        clear a0 a1 a2 a3 a4 b0 b1 b2 b3 b4
        go_wp2_with fail
        (go_at_call 23; refine (sdrop_len A7 xs.length c7 (xs.map thOf) (ds.map thOf) m ds.length _ P13.out.s LL.out DT.out (by rw [List.length_map])).mono ?_; rintro e w14 ⟨A14, c14, rfl, hs14, hb14⟩)
        have P14 := Lib.hid (P13.out.next hb14)
        have S14 := Lib.hid hs14
        clear hb14 hs14 P13 c13_
        go_wp2_with fail
        (go_at_call 15; refine (plain_calls (.agg #[.slice A14 ds.length c14]) (ds.map thOf) _ S14.out (by simpa using DL)).mono ?_; rintro e w15 ⟨v15, rfl, hr15, hb15⟩)
        rw [DP.out] at hr15
        obtain ⟨A15, c15, e15, hc15, hC15⟩ := Kd.R_reads hr15
        subst e15
        have C15 := Lib.hid hC15
        have HC15 := Lib.hid hc15
        have P15 := Lib.hid (P14.out.next hb15)
        clear hr15 hb15 hC15 hc15 P14 S14
        go_wp2_with fail
        (go_at_call 24; refine (chancelref07_Drop.calls k4 A c xs m ds _ (Kd.C_below HR.out P15.out.b) hc K4.out).mono ?_; rintro e w16 ⟨v16, rfl, hr16, hb16⟩)
        obtain ⟨A16, c16, e16, hc16, hC16⟩ := Kd.R_reads hr16
        subst e16
        have C15b := Lib.hid (Kd.C_below C15.out hb16)
        have C16 := Lib.hid hC16
        have HC16 := Lib.hid hc16
        have P16 := Lib.hid (P15.out.next hb16)
        clear hr16 hb16 hC16 hc16 P15 C15
        go_wp2_with fail
        (go_at_call 17; refine (chancelref07_Same.calls k5 A15 c15 ds A16 c16 ds true _ C15b.out HC15.out C16.out HC16.out K5.out).mono ?_; rintro e w17 ⟨rfl, hd17⟩)
        have hb17 := below_drawn hd17
        have P17 := Lib.hid (P16.out.next hb17)
        clear hd17 hb17 P16 C15b C16 HC15 HC16
        have c17_ : w17.cell? ⟨gS, 0, none⟩ = some (.slice A7 xs.length c7) := blk_cell P17.out.h 0
        go_wp2_with fail
        (go_at_call 15; refine (plain_calls (.agg #[.slice A7 xs.length c7]) (xs.map thOf) _ P17.out.s LL.out).mono ?_; rintro e w18 ⟨v18, rfl, hr18, hb18⟩)
        rw [OKP.out] at hr18
        obtain ⟨A18, c18, e18, hc18, hC18⟩ := Kd.R_reads hr18
        subst e18
        have C18 := Lib.hid hC18
        have HC18 := Lib.hid hc18
        have P18 := Lib.hid (P17.out.next hb18)
        clear hr18 hb18 hC18 hc18 P17 c17_
        go_wp2_with fail
        (go_at_call 17; refine (chancelref07_Same.calls k6 A18 c18 xs A c xs true _ C18.out HC18.out (Kd.C_below HR.out P18.out.b) hc K6.out).mono ?_; rintro e w19 ⟨rfl, hd19⟩)
        have P19 := Lib.hid (P18.out.next (below_drawn hd19))
        clear hd19 P18
        go_wp2
        go_ret
        exact ⟨rfl, P19.out.b⟩
      | some x =>
        have OKX := Lib.hid (OK.out x (lastX_mem hlx))
        rw [hlx] at hk3 LT
        have K3 : Hid (chancelref07_Last.f k3 xs d = some (x.f0, x.f1, x.f2, x.f3, x.f4, true)) := Lib.hid hk3
        clear hlx hk3
        go_wp2_with fail
        (go_at_call 21; refine (last_some A7 xs.length c7 _ d (thOf x) _ P8.out.s LL.out LT.out).mono ?_; rintro e w9 ⟨y9, rfl, hy9, hb9⟩)
        have P9 := Lib.hid (P8.out.next hb9)
        have Y9 := Lib.hid hy9
        clear hy9
        clear hb9 c8_ P8
        go_wp2_with fail
        (go_at_call 22; refine (chancelref07_Last.calls k3 A c xs d x.f0 x.f1 x.f2 x.f3 x.f4 true _ (Kd.C_below HR.out P9.out.b) hc K3.out).mono ?_; rintro e w10 ⟨rfl, hb10⟩)
        have P10 := Lib.hid (P9.out.next hb10)
        have Y10 := Lib.hid (Y9.out.below hb10)
        clear Y9
        clear hb10 P9
        go_upto_region 11 with (first | ((with_reducible refine gate_dst (N := 15) rfl ?_); refine box_event ?hg (N := 15) ?hd (cs := #[.int .i64 0, .int .i64 0, .int .i64 0, .int .i64 0, .string ByteArray.empty]) (t := 23) ?hr ?_; (case hd => rfl); (case hg => rfl); (case hr => first | (go_simp; done) | (go_simp; rfl)); intro gM hgM wM hxM hbM; have GM := Lib.hid (show w10.heap.size ≤ gM by rw [hgM]; exact Nat.le_refl _); have BM := Lib.hid hbM; have XM := Lib.hid hxM; have y0 := (blk_cell hxM 0).trans rfl; have y1 := (blk_cell hxM 1).trans rfl; have y2 := (blk_cell hxM 2).trans rfl; have y3 := (blk_cell hxM 3).trans rfl; have y4 := (blk_cell hxM 4).trans rfl; have z0 := blk_frozen hxM 0; have z1 := blk_frozen hxM 1; have z2 := blk_frozen hxM 2; have z3 := blk_frozen hxM 3; have z4 := blk_frozen hxM 4; clear hgM hxM hbM))
        refine gen2 (φ := fun W => Code.wp _ _ _ _ W) (P := fun W => Below w10.heap.size w10 W ∧ W.heap[gM]? = some (.cells (ldCells x) 23 (0, 0))) ⟨below_set (below_set (below_set (below_set (below_set BM.out GM.out) GM.out) GM.out) GM.out) GM.out, by simpa using blk_set (blk_set (blk_set (blk_set (blk_set XM.out 0 (.int .i64 x.f0)) 1 (.int .i64 x.f1)) 2 (.int .i64 x.f2)) 3 (.int .i64 x.f3)) 4 (.string x.f4)⟩ ?_
        clear y0 y1 y2 y3 y4 z0 z1 z2 z3 z4 XM BM GM
        rintro V11 ⟨hb11, hx11⟩
        have P11 := Lib.hid (P10.out.next hb11)
        have XM := Lib.hid hx11
        have Y11 := Lib.hid (Y10.out.below hb11)
        clear Y10
        clear hb11 hx11 P10
        go_wp2_with fail
        (go_at_call 20; refine (plainX OKX.out Y11.out).mono ?_; rintro e w12 ⟨rfl, hb12⟩)
        have P12 := Lib.hid (P11.out.next hb12)
        have XM12 := Lib.hid (blk_below XM.out hb12)
        clear hb12 P11 XM
        go_upto_region 12 with (first | ((with_reducible refine gate_dst (N := 17) rfl ?_); refine box_event ?hg (N := 17) ?hd (cs := #[.int .i64 0, .int .i64 0, .int .i64 0, .int .i64 0, .string ByteArray.empty]) (t := 23) ?hr ?_; (case hd => rfl); (case hg => rfl); (case hr => first | (go_simp; done) | (go_simp; rfl)); intro gN hgN wN hxN hbN; have GN := Lib.hid (show w12.heap.size ≤ gN by rw [hgN]; exact Nat.le_refl _); have BN := Lib.hid hbN; have XN := Lib.hid hxN; have y0 := (blk_cell hxN 0).trans rfl; have y1 := (blk_cell hxN 1).trans rfl; have y2 := (blk_cell hxN 2).trans rfl; have y3 := (blk_cell hxN 3).trans rfl; have y4 := (blk_cell hxN 4).trans rfl; have z0 := blk_frozen hxN 0; have z1 := blk_frozen hxN 1; have z2 := blk_frozen hxN 2; have z3 := blk_frozen hxN 3; have z4 := blk_frozen hxN 4; clear hgN hxN hbN))
        refine gen2 (φ := fun W => Code.wp _ _ _ _ W) (P := fun W => Below w12.heap.size w12 W ∧ W.heap[gN]? = some (.cells (ldCells x) 23 (0, 0))) ⟨below_set (below_set (below_set (below_set (below_set BN.out GN.out) GN.out) GN.out) GN.out) GN.out, by simpa using blk_set (blk_set (blk_set (blk_set (blk_set XN.out 0 (.int .i64 x.f0)) 1 (.int .i64 x.f1)) 2 (.int .i64 x.f2)) 3 (.int .i64 x.f3)) 4 (.string x.f4)⟩ ?_
        clear y0 y1 y2 y3 y4 z0 z1 z2 z3 z4 XN BN GN
        rintro V13 ⟨hb13, hx13⟩
        have P13 := Lib.hid (P12.out.next hb13)
        have hm13 := blk_below XM12.out hb13
        have a0 := (blk_cell hx13 0).trans rfl
        have a1 := (blk_cell hx13 1).trans rfl
        have a2 := (blk_cell hx13 2).trans rfl
        have a3 := (blk_cell hx13 3).trans rfl
        have a4 := (blk_cell hx13 4).trans rfl
        have b0 := (blk_cell hm13 0).trans rfl
        have b1 := (blk_cell hm13 1).trans rfl
        have b2 := (blk_cell hm13 2).trans rfl
        have b3 := (blk_cell hm13 3).trans rfl
        have b4 := (blk_cell hm13 4).trans rfl
        have c13_ : V13.cell? ⟨gS, 0, none⟩ = some (.slice A7 xs.length c7) := blk_cell P13.out.h 0
        clear hb13 hx13 P12 XM12 hm13
        go_upto_region 14 with (fail)
        clear a0 a1 a2 a3 a4 b0 b1 b2 b3 b4
        go_wp2_with fail
        (go_at_call 23; refine (sdrop_len A7 xs.length c7 (xs.map thOf) (ds.map thOf) m ds.length _ P13.out.s LL.out DT.out (by rw [List.length_map])).mono ?_; rintro e w14 ⟨A14, c14, rfl, hs14, hb14⟩)
        have P14 := Lib.hid (P13.out.next hb14)
        have S14 := Lib.hid hs14
        clear hb14 hs14 P13 c13_
        go_wp2_with fail
        (go_at_call 15; refine (plain_calls (.agg #[.slice A14 ds.length c14]) (ds.map thOf) _ S14.out (by simpa using DL)).mono ?_; rintro e w15 ⟨v15, rfl, hr15, hb15⟩)
        rw [DP.out] at hr15
        obtain ⟨A15, c15, e15, hc15, hC15⟩ := Kd.R_reads hr15
        subst e15
        have C15 := Lib.hid hC15
        have HC15 := Lib.hid hc15
        have P15 := Lib.hid (P14.out.next hb15)
        clear hr15 hb15 hC15 hc15 P14 S14
        go_wp2_with fail
        (go_at_call 24; refine (chancelref07_Drop.calls k4 A c xs m ds _ (Kd.C_below HR.out P15.out.b) hc K4.out).mono ?_; rintro e w16 ⟨v16, rfl, hr16, hb16⟩)
        obtain ⟨A16, c16, e16, hc16, hC16⟩ := Kd.R_reads hr16
        subst e16
        have C15b := Lib.hid (Kd.C_below C15.out hb16)
        have C16 := Lib.hid hC16
        have HC16 := Lib.hid hc16
        have P16 := Lib.hid (P15.out.next hb16)
        clear hr16 hb16 hC16 hc16 P15 C15
        go_wp2_with fail
        (go_at_call 17; refine (chancelref07_Same.calls k5 A15 c15 ds A16 c16 ds true _ C15b.out HC15.out C16.out HC16.out K5.out).mono ?_; rintro e w17 ⟨rfl, hd17⟩)
        have hb17 := below_drawn hd17
        have P17 := Lib.hid (P16.out.next hb17)
        clear hd17 hb17 P16 C15b C16 HC15 HC16
        have c17_ : w17.cell? ⟨gS, 0, none⟩ = some (.slice A7 xs.length c7) := blk_cell P17.out.h 0
        go_wp2_with fail
        (go_at_call 15; refine (plain_calls (.agg #[.slice A7 xs.length c7]) (xs.map thOf) _ P17.out.s LL.out).mono ?_; rintro e w18 ⟨v18, rfl, hr18, hb18⟩)
        rw [OKP.out] at hr18
        obtain ⟨A18, c18, e18, hc18, hC18⟩ := Kd.R_reads hr18
        subst e18
        have C18 := Lib.hid hC18
        have HC18 := Lib.hid hc18
        have P18 := Lib.hid (P17.out.next hb18)
        clear hr18 hb18 hC18 hc18 P17 c17_
        go_wp2_with fail
        (go_at_call 17; refine (chancelref07_Same.calls k6 A18 c18 xs A c xs true _ C18.out HC18.out (Kd.C_below HR.out P18.out.b) hc K6.out).mono ?_; rintro e w19 ⟨rfl, hd19⟩)
        have P19 := Lib.hid (P18.out.next (below_drawn hd19))
        clear hd19 P18
        go_wp2
        go_ret
        exact ⟨rfl, P19.out.b⟩
end Go.Proofs.YthkihkkmoknbjaaDoor.Undo
