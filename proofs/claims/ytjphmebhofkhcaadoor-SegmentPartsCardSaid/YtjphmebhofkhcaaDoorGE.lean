/- The struct api.Seg as a value (its kind), in the printed shape. Conditions: none. -/
import Derived.Test.YtjphmebhofkhcaaDoorPSegAllx0
import Derived.Test.YtjphmebhofkhcaaDoorGB
import Derived.Test.YtjphmebhofkhcaaDoorGMarks
import Derived.BigQuiet
import Derived.Deep.DeepCutAuto
namespace Go.Proofs.YtjphmebhofkhcaaDoor.PSegAll
open Go.RowKit Go.Proofs.YtjphmebhofkhcaaDoorW.PrintWords Go.Proofs.YtjphmebhofkhcaaDoorW.PrintLast Go.Proofs.YtjphmebhofkhcaaDoorW.PrintMore
structure S25 where
  f0 : Int
  f1 : Int
  f2 : ByteArray
  f3 : (List S67)
  f4 : (List S70)
def z25 : S25 := ⟨(0 : Int), (0 : Int), (⟨#[]⟩ : ByteArray), ([] : List S67), ([] : List S70)⟩
def k25 : Kd S25 := Kd.iso (Kd.pair (Kd.int .i64) (Kd.pair (Kd.int .i64) (Kd.pair Kd.string (Kd.pair (Kd.slice 67 k67) (Kd.slice 70 k70))))) (fun x : S25 => (x.f0, x.f1, x.f2, x.f3, x.f4))
theorem k25_open {w : World} {x : S25} {cs : List Value} (h : k25.K w x cs) : ∃ A3 c3 A4 c4, cs = [.int .i64 x.f0, .int .i64 x.f1, .string x.f2, .slice A3 x.f3.length c3, .slice A4 x.f4.length c4] ∧ x.f3.length ≤ c3 ∧ k67.C w A3 x.f3.length x.f3 ∧ x.f4.length ≤ c4 ∧ k70.C w A4 x.f4.length x.f4 := by
  obtain ⟨_, _, rfl, rfl, ⟨_, _, rfl, rfl, ⟨_, _, rfl, rfl, ⟨_, _, rfl, ⟨A3, c3, rfl, l3, g3⟩, ⟨A4, c4, rfl, l4, g4⟩⟩⟩⟩⟩ := h
  exact ⟨A3, c3, A4, c4, rfl, l3, g3, l4, g4⟩
/-- What is asked. -/
structure S37 where
  f0 : Int
  f1 : Int
  f2 : Int
  f3 : Int
  f4 : ByteArray
def z37 : S37 := ⟨(0 : Int), (0 : Int), (0 : Int), (0 : Int), (⟨#[]⟩ : ByteArray)⟩
def k37 : Kd S37 := Kd.iso (Kd.pair (Kd.int .i64) (Kd.pair (Kd.int .i64) (Kd.pair (Kd.int .i64) (Kd.pair (Kd.int .i64) Kd.string)))) (fun x : S37 => (x.f0, x.f1, x.f2, x.f3, x.f4))
theorem k37_open {w : World} {x : S37} {cs : List Value} (h : k37.K w x cs) : cs = [.int .i64 x.f0, .int .i64 x.f1, .int .i64 x.f2, .int .i64 x.f3, .string x.f4] := by
  obtain ⟨_, _, rfl, rfl, ⟨_, _, rfl, rfl, ⟨_, _, rfl, rfl, ⟨_, _, rfl, rfl, rfl⟩⟩⟩⟩ := h
  exact rfl
end Go.Proofs.YtjphmebhofkhcaaDoor.PSegAll
/- Segments: which plain values are right (the reference's Right, marks), and what a segment's value is. Conditions: the sizes that every row has. -/
namespace Go.Proofs.YtjphmebhofkhcaaDoor.Seg
open Go.RowKit Go.Proofs.YtjphmebhofkhcaaDoorW.PrintWords Go.Proofs.YtjphmebhofkhcaaDoorW.PrintLast Go.Proofs.YtjphmebhofkhcaaDoorW.PrintMore Go.Proofs.YtjphmebhofkhcaaDoor.Rope Go.Proofs.YtjphmebhofkhcaaDoor.PSegAll Go.Proofs.YtjphmebhofkhcaaDoor.Pure
set_option linter.unusedVariables false
set_option linter.unusedSimpArgs false
abbrev G := S25
abbrev kS := k67
abbrev kY := k70
theorem blk_newS {w : World} {o : Obj} {g : Nat} (h : g = w.heap.size) : (w.alloc o).heap[g]? = some o := by rw [h]; exact blk_new w o
/-- The plain value's cells. -/
abbrev gC (x : G) (A : Option Addr) (c : Nat) (B : Option Addr) (d : Nat) : Array Value := #[.int .i64 x.f0, .int .i64 x.f1, .string x.f2, .slice A x.f3.length c, .slice B x.f4.length d]
/-- A plain value's rows. -/
structure GR (w : World) (x : G) (A : Option Addr) (c : Nat) (B : Option Addr) (d : Nat) : Prop where
  c3 : x.f3.length ≤ c
  c4 : x.f4.length ≤ d
  r3 : Kd.C kS w A x.f3.length x.f3
  r4 : Kd.C kY w B x.f4.length x.f4
theorem GR.below {w w1 : World} {x : G} {A : Option Addr} {c : Nat} {B : Option Addr} {d : Nat} (h : GR w x A c B d) (hb : Below w.heap.size w w1) : GR w1 x A c B d := ⟨h.c3, h.c4, Kd.C_below h.r3 hb, Kd.C_below h.r4 hb⟩
set_option maxRecDepth 100000 in
set_option maxHeartbeats 800000 in
theorem marks5_calls (x : G) (A : Option Addr) (c : Nat) (B : Option Addr) (d : Nat) (w : World) :
    Calls Tryd.prog 39 #[.agg (gC x A c B d)] w fun e w' => e = .returned (.agg #[.slice A x.f3.length c, .slice B x.f4.length d]) ∧ Below w.heap.size w w' := by
  go_enter Tryd.func39, Tryd.ntmps39
  go_wp2
  refine bodyPost_ret (results_cell_row rfl _ _ (w.heap.size + 1) 74 #[.slice A x.f3.length c, .slice B x.f4.length d] (0, 0) _ rfl (blk_newS (by simp)) Tryd.underlying74 rfl (by kernel_rfl)) rfl ?_
  refine ⟨rfl, ?_⟩
  repeat (first | exact Below.refl _ _ | apply below_alloc | (refine below_set ?_ (by simp; try omega)))
abbrev Q (w0 : World) (g : Nat) (x : G) (A : Option Addr) (c : Nat) (B : Option Addr) (d : Nat) (w' : World) : Prop :=
  w'.cell? ⟨g, 0, none⟩ = some (.int .i64 x.f0) ∧ w'.cell? ⟨g, 1, none⟩ = some (.int .i64 x.f1) ∧ w'.cell? ⟨g, 2, none⟩ = some (.string x.f2) ∧ w'.cell? ⟨g, 3, none⟩ = some (.slice A x.f3.length c) ∧ w'.cell? ⟨g, 4, none⟩ = some (.slice B x.f4.length d) ∧ Below w0.heap.size w0 w'
theorem Q.b {w0 W : World} {g : Nat} {x : G} {A : Option Addr} {c : Nat} {B : Option Addr} {d : Nat} (h : Q w0 g x A c B d W) : Below w0.heap.size w0 W := h.2.2.2.2.2
theorem Q.next {w0 W W' : World} {g : Nat} {x : G} {A : Option Addr} {c : Nat} {B : Option Addr} {d : Nat} (h : Q w0 g x A c B d W) (hb : Below W.heap.size W W') : Q w0 g x A c B d W' :=
  ⟨pw_cell_below hb h.1, pw_cell_below hb h.2.1, pw_cell_below hb h.2.2.1, pw_cell_below hb h.2.2.2.1, pw_cell_below hb h.2.2.2.2.1, below_step h.2.2.2.2.2 hb⟩
theorem Q.of {w0 W : World} {g : Nat} {x : G} {A : Option Addr} {c : Nat} {B : Option Addr} {d : Nat} (h : w0.heap[g]? = some (.cells (gC x A c B d) 25 (0, 0))) (hb : Below w0.heap.size w0 W) : Q w0 g x A c B d W :=
  have h' := blk_below h hb
  ⟨blk_cell h' 0, blk_cell h' 1, blk_cell h' 2, blk_cell h' 3, blk_cell h' 4, hb⟩
/-- How many letters a right text has. -/
noncomputable def cnt (s : ByteArray) : Int := open Classical in if h : ∃ cs, Letts cs ∧ s.data.toList = cs.flatten then ((Classical.choose h).length : Int) else 0
theorem Ev.same {α : Type} {g : Nat → Option α} {r q : α} (h1 : Ev g r) (h2 : Ev g q) : r = q := by
  obtain ⟨K1, h1⟩ := h1
  obtain ⟨K2, h2⟩ := h2
  have e1 := h1 (max K1 K2) (Nat.le_max_left _ _)
  rw [h2 (max K1 K2) (Nat.le_max_right _ _)] at e1
  exact (Option.some.inj e1).symm
theorem cnt_eq {s : ByteArray} {cs : List (List UInt8)} (hl : Letts cs) (h : s.data.toList = cs.flatten) (hs : s.size ≤ 1099511627776) : cnt s = (cs.length : Int) := by
  have hx : ∃ cs, Letts cs ∧ s.data.toList = cs.flatten := ⟨cs, hl, h⟩
  unfold cnt
  rw [dif_pos hx]
  have h2 := Classical.choose_spec hx
  exact Ev.same (Count_ev h2.1 h2.2 hs) (Count_ev hl h hs)
theorem cnt_ev {s : ByteArray} (hv : Lib.validD s.data.toList = true) (hs : s.size ≤ 1099511627776) : Ev (fun k => chancelref01_Count.f k s) (cnt s) := by
  obtain ⟨cs, hl, h⟩ := (validD_iff _).1 hv
  rw [cnt_eq hl h hs]
  exact Count_ev hl h hs
theorem len_rp {w : World} {p : Option Addr} {s : ByteArray} (h : Rp w p s) (hs : s.size ≤ 1099511627776) : Calls Tryd.prog 36 #[.pointer p] w fun e w' => e = .returned (.int .i64 (cnt s)) ∧ w = w' := by
  obtain ⟨t, cs, hi, h⟩ := h
  have e : cnt s = ((runesO t : Nat) : Int) := by rw [hi.g.runes]; exact cnt_eq hi.g.letts h hs
  rw [e]
  exact len_calls t _ w hi.r
/-- May it be loaded? -/
noncomputable def okB (x : G) : Bool := Lib.validD x.f2.data.toList && rightB (cnt x.f2) x.f3 x.f4
/-- No more than there may be. -/
structure Sz (x : G) : Prop where
  s2 : x.f2.size ≤ 1099511627776
  s3 : x.f3.length ≤ 1099511627776
  s4 : x.f4.length ≤ 1099511627776
theorem quiet_D {P : Program} {f : FuncId} {args : Array Value} {w : World} {n : Nat} {v : Value} (h : Calls P f args (w.drewN n) fun e w' => e = .returned v ∧ Drawn0 (w.drewN n) w') : Calls P f args (w.drewN n) fun e w'' => e = .returned v ∧ ∃ m, w'' = w.drewN m :=
  h.mono fun _ _ ⟨he, hm⟩ => ⟨he, by obtain ⟨m, rfl⟩ := hm.out; exact ⟨n + m, by rw [World.drewN_drewN]⟩⟩
end Go.Proofs.YtjphmebhofkhcaaDoor.Seg
/- The walks of slices.Clone at spans and at sites. -/
namespace Go.Proofs.YtjphmebhofkhcaaDoor.Seg
open Go.RowKit Go.Proofs.YtjphmebhofkhcaaDoorW.PrintWords Go.Proofs.YtjphmebhofkhcaaDoorW.PrintLast Go.Proofs.YtjphmebhofkhcaaDoorW.PrintMore Go.Proofs.YtjphmebhofkhcaaDoor.Rope Go.Proofs.YtjphmebhofkhcaaDoor.PSegAll Go.Proofs.YtjphmebhofkhcaaDoor.Pure
set_option linter.unusedVariables false
set_option linter.unusedSimpArgs false
theorem infoC67 : (Tryd.prog.info? 67).map (fun i => (i.zero, i.size, i.bytes)) = some (some (.agg #[.int .i64 0, .int .i64 0, .int .i64 0]), 3, 24) := by kernel_rfl
theorem infoC70 : (Tryd.prog.info? 70).map (fun i => (i.zero, i.size, i.bytes)) = some (some (.agg #[.int .i64 0, .int .i64 0]), 2, 16) := by kernel_rfl
theorem k67_M_of_K {w : World} {base : Nat} {ok : Nat → Prop} (x : S67) (cs : List Value) (h : k67.K w x cs) : k67.M w base ok x cs := by
  obtain rfl := k67_open h
  exact k67_mkM _ _ _ _
set_option maxHeartbeats 800000 in
set_option maxRecDepth 100000 in
theorem clone67 (A : Option Addr) (c : Nat) (xs : List S67) (w : World) (hr : Kd.C k67 w A xs.length xs) (hc : xs.length ≤ c) (hl : xs.length * 24 ≤ 140737488355328) :
    Calls Tryd.prog 33 #[.slice A xs.length c] w fun e w' => ∃ v, e = .returned v ∧ Kd.R k67 67 w' w.heap.size (fun _ => True) v xs ∧ Below w.heap.size w w' := by
  have qn : ∀ (w : World) (a : Option Addr) (n c : Nat), (binOp .eql 22 (.slice a n c) (.slice none 0 0)).run Tryd.prog w = .ok (.bool a.isNone) w := fun w a n c => Lib.run_eql_slice_nil w _ _ a n c 0 0 Tryd.underlying22
  have HR := Lib.hid hr
  have HC := Lib.hid hc
  have HL := Lib.hid hl
  cases A with
  | none =>
    have hx : xs = [] := by
      rcases Nat.eq_zero_or_pos xs.length with h0 | h0
      · exact List.length_eq_zero_iff.1 h0
      · obtain ⟨_, e, _⟩ := hr.2.2 h0
        cases e
    clear hr hc hl
    go_enter Tryd.func33, Tryd.ntmps33
    go_wp2
    go_ret
    subst hx
    exact ⟨_, rfl, Kd.R_nil _ _ _ _ _, Below.refl _ _⟩
  | some ad =>
    clear hr hc hl
    go_enter Tryd.func33, Tryd.ntmps33
    go_wp2_with (first
      | ((with_reducible refine gate_dst (N := 5) rfl ?_)
         refine Kd.R_lit k67 _ 67 ?hg (N := 5) ?hd (xs := ([] : List S67)) (inner := []) (ok := fun _ => True) (okp := fun _ => True) ?hr ?hp (fun _ hk => hk) trivial (Below.refl _ _) (Nat.le_refl _) (by simp) ?_
         (case hd => rfl); (case hg => rfl); (case hr => first | (go_simp; done) | (go_simp; rfl)); (case hp => exact Reps.none _ _)
         intro v1 w1 HO HB hg hat; have HO1 := Lib.hid HO; have HB1 := Lib.hid HB; clear HO HB hg hat)
      | ((with_reducible refine gate_dst (N := 7) rfl ?_)
         refine Kd.R_append_rows k67 _ ?hg (.tmp 5) (.tmp 6) 22 67 (.agg #[.int .i64 0, .int .i64 0, .int .i64 0]) 24 rfl Tryd.underlying22 infoC67 rfl (by decide) (by decide) _ [] xs (some ad) xs.length c (fun _ => True) (fun k => some k ≠ v1.ownBlock) rfl rfl HO1.out (Kd.C_below HR.out HB1.out) (fun x cs h => k67_M_of_K x cs h) (fun _ h => ⟨trivial, h⟩) (fun _ _ => trivial) HB1.out (HB1.out.size) (by have := HL.out; simpa using this) ?_
         (case hg => rfl)
         intro v2 w2 HO HB hg hat; have HO2 := Lib.hid HO; have HB2 := Lib.hid HB; clear HO HB hg hat))
    go_ret
    exact ⟨_, rfl, HO2.out, HB2.out⟩
theorem k70_M_of_K {w : World} {base : Nat} {ok : Nat → Prop} (x : S70) (cs : List Value) (h : k70.K w x cs) : k70.M w base ok x cs := by
  obtain rfl := k70_open h
  exact k70_mkM _ _ _ _
set_option maxHeartbeats 800000 in
set_option maxRecDepth 100000 in
theorem clone70 (A : Option Addr) (c : Nat) (xs : List S70) (w : World) (hr : Kd.C k70 w A xs.length xs) (hc : xs.length ≤ c) (hl : xs.length * 16 ≤ 140737488355328) :
    Calls Tryd.prog 34 #[.slice A xs.length c] w fun e w' => ∃ v, e = .returned v ∧ Kd.R k70 70 w' w.heap.size (fun _ => True) v xs ∧ Below w.heap.size w w' := by
  have qn : ∀ (w : World) (a : Option Addr) (n c : Nat), (binOp .eql 23 (.slice a n c) (.slice none 0 0)).run Tryd.prog w = .ok (.bool a.isNone) w := fun w a n c => Lib.run_eql_slice_nil w _ _ a n c 0 0 Tryd.underlying23
  have HR := Lib.hid hr
  have HC := Lib.hid hc
  have HL := Lib.hid hl
  cases A with
  | none =>
    have hx : xs = [] := by
      rcases Nat.eq_zero_or_pos xs.length with h0 | h0
      · exact List.length_eq_zero_iff.1 h0
      · obtain ⟨_, e, _⟩ := hr.2.2 h0
        cases e
    clear hr hc hl
    go_enter Tryd.func34, Tryd.ntmps34
    go_wp2
    go_ret
    subst hx
    exact ⟨_, rfl, Kd.R_nil _ _ _ _ _, Below.refl _ _⟩
  | some ad =>
    clear hr hc hl
    go_enter Tryd.func34, Tryd.ntmps34
    go_wp2_with (first
      | ((with_reducible refine gate_dst (N := 5) rfl ?_)
         refine Kd.R_lit k70 _ 70 ?hg (N := 5) ?hd (xs := ([] : List S70)) (inner := []) (ok := fun _ => True) (okp := fun _ => True) ?hr ?hp (fun _ hk => hk) trivial (Below.refl _ _) (Nat.le_refl _) (by simp) ?_
         (case hd => rfl); (case hg => rfl); (case hr => first | (go_simp; done) | (go_simp; rfl)); (case hp => exact Reps.none _ _)
         intro v1 w1 HO HB hg hat; have HO1 := Lib.hid HO; have HB1 := Lib.hid HB; clear HO HB hg hat)
      | ((with_reducible refine gate_dst (N := 7) rfl ?_)
         refine Kd.R_append_rows k70 _ ?hg (.tmp 5) (.tmp 6) 23 70 (.agg #[.int .i64 0, .int .i64 0]) 16 rfl Tryd.underlying23 infoC70 rfl (by decide) (by decide) _ [] xs (some ad) xs.length c (fun _ => True) (fun k => some k ≠ v1.ownBlock) rfl rfl HO1.out (Kd.C_below HR.out HB1.out) (fun x cs h => k70_M_of_K x cs h) (fun _ h => ⟨trivial, h⟩) (fun _ _ => trivial) HB1.out (HB1.out.size) (by have := HL.out; simpa using this) ?_
         (case hg => rfl)
         intro v2 w2 HO HB hg hat; have HO2 := Lib.hid HO; have HB2 := Lib.hid HB; clear HO HB hg hat))
    go_ret
    exact ⟨_, rfl, HO2.out, HB2.out⟩
end Go.Proofs.YtjphmebhofkhcaaDoor.Seg
/- Segments: what a segment's value is; the walk of segment.Load. Conditions: at most 2^40 bytes, spans, sites; Go's two tables of utf8 as they are laid. -/
namespace Go.Proofs.YtjphmebhofkhcaaDoor.Seg
open Go.RowKit Go.Proofs.YtjphmebhofkhcaaDoorW.PrintWords Go.Proofs.YtjphmebhofkhcaaDoorW.PrintLast Go.Proofs.YtjphmebhofkhcaaDoorW.PrintMore Go.Proofs.YtjphmebhofkhcaaDoor.Rope Go.Proofs.YtjphmebhofkhcaaDoor.PSegAll Go.Proofs.YtjphmebhofkhcaaDoor.Pure
set_option linter.unusedVariables false
set_option linter.unusedSimpArgs false
theorem addS_blk (a : Addr) (i : Nat) : (a.add i).block = a.block := by unfold Addr.add; split <;> rfl
theorem cellS_blk {w w1 : World} {a : Addr} (h : w1.heap[a.block]? = w.heap[a.block]?) : w1.cell? a = w.cell? a := by simp [World.cell?, h]
theorem C_moveK {α : Type} {d : Kd α} {w w1 : World} {A : Option Addr} {n : Nat} {xs : List α} (hK : ∀ x cs, d.K w x cs → d.K w1 x cs) (h : Kd.C d w A n xs) (hm : ∀ ad, A = some ad → w1.heap[ad.block]? = w.heap[ad.block]?) : Kd.C d w1 A n xs := by
  refine ⟨h.1, h.2.1, fun hn => ?_⟩
  obtain ⟨ad, e, hc⟩ := h.2.2 hn
  refine ⟨ad, e, fun j p hj => ?_⟩
  obtain ⟨c, h1, h2, h3⟩ := hc j p hj
  refine ⟨c, h1, hK _ _ h2, fun i u hu => ?_⟩
  rw [cellS_blk (w := w) (by rw [addS_blk]; exact hm ad e)]
  exact h3 i u hu
theorem kS_any {w w1 : World} {x : S67} {cs : List Value} (h : kS.K w x cs) : kS.K w1 x cs := by rw [k67_open h]; exact k67_mk w1 x
theorem kY_any {w w1 : World} {x : S70} {cs : List Value} (h : kY.K w x cs) : kY.K w1 x cs := by rw [k70_open h]; exact k70_mk w1 x
/-- Rows of types that are known. -/
structure TR (w : World) (x : G) (A : Option Addr) (c : Nat) (B : Option Addr) (d : Nat) : Prop extends GR w x A c B d where
  t3 : ∀ ad, A = some ad → ∃ cs, w.heap[ad.block]? = some (.cells cs 67 (0, 0))
  t4 : ∀ ad, B = some ad → ∃ cs, w.heap[ad.block]? = some (.cells cs 70 (0, 0))
theorem TR.below {w w1 : World} {x : G} {A : Option Addr} {c : Nat} {B : Option Addr} {d : Nat} (h : TR w x A c B d) (hb : Below w.heap.size w w1) : TR w1 x A c B d :=
  ⟨h.toGR.below hb, fun ad e => by obtain ⟨cs, hc⟩ := h.t3 ad e; exact ⟨cs, blk_below hc hb⟩, fun ad e => by obtain ⟨cs, hc⟩ := h.t4 ad e; exact ⟨cs, blk_below hc hb⟩⟩
theorem TR.move {w w1 : World} {x : G} {A : Option Addr} {c : Nat} {B : Option Addr} {d : Nat} (h : TR w x A c B d) (m3 : ∀ (g : Nat) (cs : Array Value), w.heap[g]? = some (.cells cs 67 (0, 0)) → w1.heap[g]? = w.heap[g]?) (m4 : ∀ (g : Nat) (cs : Array Value), w.heap[g]? = some (.cells cs 70 (0, 0)) → w1.heap[g]? = w.heap[g]?) : TR w1 x A c B d :=
  ⟨⟨h.c3, h.c4, C_moveK (fun _ _ => kS_any) h.r3 (fun ad e => by obtain ⟨cs, hc⟩ := h.t3 ad e; exact m3 _ cs hc), C_moveK (fun _ _ => kY_any) h.r4 (fun ad e => by obtain ⟨cs, hc⟩ := h.t4 ad e; exact m4 _ cs hc)⟩,
    fun ad e => by obtain ⟨cs, hc⟩ := h.t3 ad e; exact ⟨cs, (m3 _ cs hc).trans hc⟩, fun ad e => by obtain ⟨cs, hc⟩ := h.t4 ad e; exact ⟨cs, (m4 _ cs hc).trans hc⟩⟩
theorem TR.of {w : World} {x : G} {base base' : Nat} {ok ok' : Nat → Prop} {A : Option Addr} {c : Nat} {B : Option Addr} {d : Nat} (h3 : Kd.R kS 67 w base ok (.slice A x.f3.length c) x.f3) (h4 : Kd.R kY 70 w base' ok' (.slice B x.f4.length d) x.f4) : TR w x A c B d := by
  obtain ⟨_, c3, r3⟩ := Kd.R_reads' h3
  obtain ⟨_, c4, r4⟩ := Kd.R_reads' h4
  obtain ⟨i3, o3⟩ := Kd.R_own h3
  obtain ⟨i4, o4⟩ := Kd.R_own h4
  exact ⟨⟨c3, c4, r3, r4⟩, fun ad e => by subst e; exact own_typed o3 ad.block rfl, fun ad e => by subst e; exact own_typed o4 ad.block rfl⟩
/-- A segment's cells. -/
abbrev sgC (x : G) (p A : Option Addr) (c : Nat) (B : Option Addr) (d : Nat) : Array Value := #[.int .i64 x.f0, .int .i64 x.f1, .pointer p, .slice A x.f3.length c, .slice B x.f4.length d]
abbrev zC : Array Value := #[.int .i64 0, .int .i64 0, .pointer none, .slice none 0 0, .slice none 0 0]
/-- What they lead to. -/
structure SP (w : World) (x : G) (p A : Option Addr) (c : Nat) (B : Option Addr) (d : Nat) : Prop extends TR w x A c B d where
  rp : Rp w p x.f2
theorem SP.below {w w1 : World} {x : G} {p A : Option Addr} {c : Nat} {B : Option Addr} {d : Nat} (h : SP w x p A c B d) (hb : Below w.heap.size w w1) : SP w1 x p A c B d := ⟨h.toTR.below hb, h.rp.below hb⟩
theorem SP.move {w w1 : World} {x : G} {p A : Option Addr} {c : Nat} {B : Option Addr} {d : Nat} (h : SP w x p A c B d) (m3 : ∀ (g : Nat) (cs : Array Value), w.heap[g]? = some (.cells cs 67 (0, 0)) → w1.heap[g]? = w.heap[g]?) (m4 : ∀ (g : Nat) (cs : Array Value), w.heap[g]? = some (.cells cs 70 (0, 0)) → w1.heap[g]? = w.heap[g]?) (m : ∀ (g : Nat) (cs : Array Value), w.heap[g]? = some (.cells cs 103 (0, 0)) → w1.heap[g]? = w.heap[g]?) : SP w1 x p A c B d := ⟨h.toTR.move m3 m4, h.rp.move m⟩
theorem rp_none (w : World) : Rp w none ⟨#[]⟩ := ⟨none, [], ⟨rfl, rfl, Nat.zero_le _⟩, rfl⟩
/-- What holds behind New. -/
structure Le (w : World) (gX gR : Nat) (x : G) (A : Option Addr) (c : Nat) (B : Option Addr) (d : Nat) (p : Option Addr) (s : ByteArray) (W : World) : Prop where
  b : Below w.heap.size w W
  hX : W.heap[gX]? = some (.cells (gC x A c B d) 25 (0, 0))
  hR : W.heap[gR]? = some (.cells zC 31 (0, 0))
  rp : Rp W p s
theorem Le.next {w W W' : World} {gX gR : Nat} {x : G} {A : Option Addr} {c : Nat} {B : Option Addr} {d : Nat} {p : Option Addr} {s : ByteArray} (h : Le w gX gR x A c B d p s W) (hb : Below W.heap.size W W') : Le w gX gR x A c B d p s W' := ⟨below_step h.b hb, blk_below h.hX hb, blk_below h.hR hb, h.rp.below hb⟩
/-- .. and behind the marks. -/
structure Lm (w : World) (gX gR : Nat) (x : G) (A : Option Addr) (c : Nat) (B : Option Addr) (d : Nat) (p : Option Addr) (s : ByteArray) (gM : Nat) (A5 : Option Addr) (c5 : Nat) (A6 : Option Addr) (c6 : Nat) (W : World) : Prop extends Le w gX gR x A c B d p s W where
  hM : W.heap[gM]? = some (.cells #[.slice A5 x.f3.length c5, .slice A6 x.f4.length c6] 29 (0, 0))
  tr : TR W x A5 c5 A6 c6
theorem Lm.next {w W W' : World} {gX gR : Nat} {x : G} {A : Option Addr} {c : Nat} {B : Option Addr} {d : Nat} {p : Option Addr} {s : ByteArray} {gM : Nat} {A5 : Option Addr} {c5 : Nat} {A6 : Option Addr} {c6 : Nat} (h : Lm w gX gR x A c B d p s gM A5 c5 A6 c6 W) (hb : Below W.heap.size W W') : Lm w gX gR x A c B d p s gM A5 c5 A6 c6 W' := ⟨h.toLe.next hb, blk_below h.hM hb, h.tr.below hb⟩
theorem set_typeS {W : World} {k : Nat} {cs0 : Array Value} {t0 : TypeId} (hk : W.heap[k]? = some (.cells cs0 t0 (0, 0))) {t : TypeId} (ht : t ≠ t0) (j : Nat) (u : Value) : ∀ (g : Nat) (cs : Array Value), W.heap[g]? = some (.cells cs t (0, 0)) → (W.setCell ⟨k, j, none⟩ u).heap[g]? = W.heap[g]? := by
  intro g cs hc
  exact Below.heap_setCell W ⟨k, j, none⟩ u g (blk_ne hc hk ht)
theorem tr_set2 {w : World} {x : G} {A : Option Addr} {c : Nat} {B : Option Addr} {d : Nat} (h : TR w x A c B d) {g : Nat} {cs0 : Array Value} (hM : w.heap[g]? = some (.cells cs0 29 (0, 0))) (u0 u1 : Value) : TR ((w.setCell ⟨g, 0, none⟩ u0).setCell ⟨g, 1, none⟩ u1) x A c B d :=
  (h.move (set_typeS hM (by decide) _ _) (set_typeS hM (by decide) _ _)).move (set_typeS (blk_set hM 0 u0) (by decide) _ _) (set_typeS (blk_set hM 0 u0) (by decide) _ _)
theorem gen2 {φ P : World → Prop} {w : World} (h : P w) (k : ∀ W, P W → φ W) : φ w := k w h
theorem genM {Γ : Prop} {W W' : World} {g : Nat} (h : W.heap[g]? = some (.cells #[.slice none 0 0, .slice none 0 0] 29 (0, 0))) (hb : Below W.heap.size W W') (k : Hid (W'.heap[g]? = some (.cells #[.slice none 0 0, .slice none 0 0] 29 (0, 0))) → Γ) : Γ := k (Lib.hid (blk_below h hb))
abbrev Q2 (V : World) (gX : Nat) (x : G) (A : Option Addr) (c : Nat) (B : Option Addr) (d : Nat) (w' : World) : Prop :=
  w'.cell? ⟨gX, 3, none⟩ = some (.slice A x.f3.length c) ∧ w'.cell? ⟨gX, 4, none⟩ = some (.slice B x.f4.length d) ∧ Below V.heap.size V w'
theorem Q2.b {V W : World} {gX : Nat} {x : G} {A : Option Addr} {c : Nat} {B : Option Addr} {d : Nat} (h : Q2 V gX x A c B d W) : Below V.heap.size V W := h.2.2
theorem Q2.next {V W W' : World} {gX : Nat} {x : G} {A : Option Addr} {c : Nat} {B : Option Addr} {d : Nat} (h : Q2 V gX x A c B d W) (hb : Below W.heap.size W W') : Q2 V gX x A c B d W' :=
  ⟨pw_cell_below hb h.1, pw_cell_below hb h.2.1, below_step h.2.2 hb⟩
theorem Q2.of {V W : World} {gX : Nat} {x : G} {A : Option Addr} {c : Nat} {B : Option Addr} {d : Nat} (h : V.heap[gX]? = some (.cells (gC x A c B d) 25 (0, 0))) (hb : Below V.heap.size V W) : Q2 V gX x A c B d W :=
  have h' := blk_below h hb
  ⟨blk_cell h' 3, blk_cell h' 4, hb⟩
theorem new_rpS (s : ByteArray) (w : World) (hs : s.size ≤ 1099511627776) (hT : Tabs w) (hv : Lib.validD s.data.toList = true) :
    Calls Tryd.prog 32 #[.string s] w fun e w' => ∃ p, e = .returned (.tuple #[.pointer p, .bool true]) ∧ Rp w' p s ∧ Below w.heap.size w w' := by
  obtain ⟨cs, hl, h⟩ := (validD_iff _).1 hv
  refine (new_calls s w hs hT hl h).mono ?_
  rintro e w' ⟨v, rfl, hi, hb⟩
  obtain ⟨b, rfl, hr⟩ := hi.rp h
  exact ⟨b, rfl, hr, hb⟩
theorem len_rpb {w : World} {p : Option Addr} {s : ByteArray} (h : Rp w p s) (hs : s.size ≤ 1099511627776) : Calls Tryd.prog 36 #[.pointer p] w fun e w' => e = .returned (.int .i64 (cnt s)) ∧ Below w.heap.size w w' :=
  (len_rp h hs).mono (by rintro e w' ⟨rfl, rfl⟩; exact ⟨rfl, Below.refl _ _⟩)
theorem sp_set {w : World} {x : G} {p A : Option Addr} {c : Nat} {B : Option Addr} {d : Nat} {g : Nat} {cs0 : Array Value} (h : SP w x p A c B d ∧ w.heap[g]? = some (.cells cs0 31 (0, 0))) (j : Nat) (u : Value) : SP (w.setCell ⟨g, j, none⟩ u) x p A c B d ∧ (w.setCell ⟨g, j, none⟩ u).heap[g]? = some (.cells (cs0.setIfInBounds j u) 31 (0, 0)) :=
  ⟨h.1.move (set_typeS h.2 (by decide) _ _) (set_typeS h.2 (by decide) _ _) (set_typeS h.2 (by decide) _ _), blk_set h.2 j u⟩
abbrev QM (V : World) (gM : Nat) (x : G) (A : Option Addr) (c : Nat) (B : Option Addr) (d : Nat) (w' : World) : Prop :=
  w'.cell? ⟨gM, 0, none⟩ = some (.slice A x.f3.length c) ∧ w'.cell? ⟨gM, 1, none⟩ = some (.slice B x.f4.length d) ∧ Below V.heap.size V w'
theorem QM.b {V W : World} {gX : Nat} {x : G} {A : Option Addr} {c : Nat} {B : Option Addr} {d : Nat} (h : QM V gX x A c B d W) : Below V.heap.size V W := h.2.2
theorem QM.next {V W W' : World} {gX : Nat} {x : G} {A : Option Addr} {c : Nat} {B : Option Addr} {d : Nat} (h : QM V gX x A c B d W) (hb : Below W.heap.size W W') : QM V gX x A c B d W' :=
  ⟨pw_cell_below hb h.1, pw_cell_below hb h.2.1, below_step h.2.2 hb⟩
theorem QM.of {V W : World} {gX : Nat} {x : G} {A : Option Addr} {c : Nat} {B : Option Addr} {d : Nat} (h : V.heap[gX]? = some (.cells #[.slice A x.f3.length c, .slice B x.f4.length d] 29 (0, 0))) (hb : Below V.heap.size V W) : QM V gX x A c B d W :=
  have h' := blk_below h hb
  ⟨blk_cell h' 0, blk_cell h' 1, hb⟩
/-- A segment comes back. -/
def RetSeg (x : G) (w : World) (e : Ending) (w' : World) : Prop := ∃ p A c B d, e = .returned (.tuple #[.agg (sgC x p A c B d), .bool true]) ∧ SP w' x p A c B d ∧ Below w.heap.size w w'
/-- segment.Load at values that may be loaded, and at others. -/
theorem okB_true {x : G} (h : okB x = true) : Lib.validD x.f2.data.toList = true ∧ rightB (cnt x.f2) x.f3 x.f4 = true := by
  unfold okB at h
  simpa using h
end Go.Proofs.YtjphmebhofkhcaaDoor.Seg
/- Segments: the walks of Plain, Id, Label, Rope. Conditions: at most 2^40 bytes, spans, sites. -/
namespace Go.Proofs.YtjphmebhofkhcaaDoor.Seg
open Go.RowKit Go.Proofs.YtjphmebhofkhcaaDoorW.PrintWords Go.Proofs.YtjphmebhofkhcaaDoorW.PrintLast Go.Proofs.YtjphmebhofkhcaaDoorW.PrintMore Go.Proofs.YtjphmebhofkhcaaDoor.Rope Go.Proofs.YtjphmebhofkhcaaDoor.PSegAll Go.Proofs.YtjphmebhofkhcaaDoor.Pure
set_option linter.unusedVariables false
set_option linter.unusedSimpArgs false
theorem R_moveT {α : Type} {d : Kd α} {e : Nat} {w w1 : World} {base : Nat} {ok : Nat → Prop} {v : Value} {xs : List α} (hE : d.E = []) (h : d.R e w base ok v xs) (m : ∀ (g : Nat) (cs : Array Value), w.heap[g]? = some (.cells cs e (0, 0)) → w1.heap[g]? = w.heap[g]?) : d.R e w1 base ok v xs :=
  Kd.R_mono (Kd.R_move (Kd.R_bound h) (fun k hk => by obtain ⟨_, _, _, q, hq, cs, hc⟩ := hk; rw [hE] at hq; have := List.mem_singleton.1 hq; subst this; exact m k cs hc)) (fun _ hk => hk.1)
theorem r_set {α : Type} {d : Kd α} {e : Nat} {w : World} {base : Nat} {ok : Nat → Prop} {v : Value} {xs : List α} {g : Nat} {cs0 : Array Value} (he : e ≠ 25) (hE : d.E = []) (h : d.R e w base ok v xs ∧ w.heap[g]? = some (.cells cs0 25 (0, 0))) (j : Nat) (u : Value) : d.R e (w.setCell ⟨g, j, none⟩ u) base ok v xs ∧ (w.setCell ⟨g, j, none⟩ u).heap[g]? = some (.cells (cs0.setIfInBounds j u) 25 (0, 0)) :=
  ⟨R_moveT hE h.1 (set_typeS h.2 he _ _), blk_set h.2 j u⟩
theorem text_rpS {w : World} {p : Option Addr} {s : ByteArray} (h : Rp w p s) : Calls Tryd.prog 16 #[.pointer p] w fun e w' => e = .returned (.string s) ∧ Below w.heap.size w w' := by
  obtain ⟨t, cs, hi, hs⟩ := h
  exact text_is hi s hs
set_option maxRecDepth 100000 in
set_option maxHeartbeats 800000 in
theorem id_calls (x : G) (p A : Option Addr) (c : Nat) (B : Option Addr) (d : Nat) (w : World) :
    Calls Tryd.prog 22 #[.agg (sgC x p A c B d)] w fun e w' => e = .returned (.int .i64 x.f0) ∧ Below w.heap.size w w' := by
  go_enter Tryd.func22, Tryd.ntmps22
  go_wp2
  go_ret
  refine ⟨rfl, ?_⟩
  repeat (first | exact Below.refl _ _ | apply below_alloc | (refine below_set ?_ (by simp; try omega)))
/-- A plain value of rows of the call's own. -/
def RetG (x : G) (w : World) (e : Ending) (w' : World) : Prop := ∃ A c B d, e = .returned (.agg (gC x A c B d)) ∧ Kd.R kS 67 w' w.heap.size (fun _ => True) (.slice A x.f3.length c) x.f3 ∧ Kd.R kY 70 w' w.heap.size (fun _ => True) (.slice B x.f4.length d) x.f4 ∧ Below w.heap.size w w'
abbrev Q5 (V : World) (gX : Nat) (x : G) (p A : Option Addr) (c : Nat) (B : Option Addr) (d : Nat) (w' : World) : Prop :=
  w'.cell? ⟨gX, 0, none⟩ = some (.int .i64 x.f0) ∧ w'.cell? ⟨gX, 1, none⟩ = some (.int .i64 x.f1) ∧ w'.cell? ⟨gX, 2, none⟩ = some (.pointer p) ∧ w'.cell? ⟨gX, 3, none⟩ = some (.slice A x.f3.length c) ∧ w'.cell? ⟨gX, 4, none⟩ = some (.slice B x.f4.length d) ∧ Below V.heap.size V w'
theorem Q5.b {V W : World} {gX : Nat} {x : G} {p A : Option Addr} {c : Nat} {B : Option Addr} {d : Nat} (h : Q5 V gX x p A c B d W) : Below V.heap.size V W := h.2.2.2.2.2
theorem Q5.next {V W W' : World} {gX : Nat} {x : G} {p A : Option Addr} {c : Nat} {B : Option Addr} {d : Nat} (h : Q5 V gX x p A c B d W) (hb : Below W.heap.size W W') : Q5 V gX x p A c B d W' :=
  ⟨pw_cell_below hb h.1, pw_cell_below hb h.2.1, pw_cell_below hb h.2.2.1, pw_cell_below hb h.2.2.2.1, pw_cell_below hb h.2.2.2.2.1, below_step h.2.2.2.2.2 hb⟩
theorem Q5.of {V W : World} {gX : Nat} {x : G} {p A : Option Addr} {c : Nat} {B : Option Addr} {d : Nat} (h : V.heap[gX]? = some (.cells (sgC x p A c B d) 31 (0, 0))) (hb : Below V.heap.size V W) : Q5 V gX x p A c B d W :=
  have h' := blk_below h hb
  ⟨blk_cell h' 0, blk_cell h' 1, blk_cell h' 2, blk_cell h' 3, blk_cell h' 4, hb⟩
set_option maxRecDepth 1000000 in
set_option maxHeartbeats 4000000 in
theorem plainG_calls (x : G) (p A : Option Addr) (c : Nat) (B : Option Addr) (d : Nat) (w : World) (hs : SP w x p A c B d) (h : Sz x) :
    Calls Tryd.prog 21 #[.agg (sgC x p A c B d)] w (RetG x w) := by
  have HS := Lib.hid hs
  have HZ := Lib.hid h
  clear hs h
  go_enter Tryd.func21, Tryd.ntmps21
  go_upto_region 1 with (first | ((with_reducible refine gate_dst (N := 1) rfl ?_); refine box_event ?hg (N := 1) ?hd (cs := sgC x p A c B d) (t := 31) ?hr ?_; (case hd => rfl); (case hg => rfl); (case hr => first | (go_simp; done) | (go_simp; rfl)); intro gX hgX wX hxX hbX; have BX := Lib.hid hbX; have XX := Lib.hid hxX; clear hgX hxX hbX) | ((with_reducible refine gate_dst (N := 2) rfl ?_); refine box_event ?hg (N := 2) ?hd (cs := #[.int .i64 0, .int .i64 0, .string ByteArray.empty, .slice none 0 0, .slice none 0 0]) (t := 25) ?hr ?_; (case hd => rfl); (case hg => rfl); (case hr => first | (go_simp; done) | (go_simp; rfl)); intro gR hgR wR hxR hbR; have BR := Lib.hid hbR; have GX := Lib.hid (show wX.heap.size ≤ gR by rw [hgR]; exact Nat.le_refl _); have XR := Lib.hid hxR; clear hgR hxR hbR))
  have QS := Lib.hid (Q5.of XX.out BR.out)
  go_region_held3 (fun w' => Q5 wX gX x p A c B d w')
    (first | (with_reducible assumption) | (with_reducible exact HS5.out) | (with_reducible exact HS6.out) | (with_reducible exact HS7.out) | (with_reducible exact Q5.of XX.out (below_set (below_set (below_set (below_set (below_set (Q5.b HS7.out) GX.out) GX.out) GX.out) GX.out) GX.out)) | exact QS.out.next (by (with_reducible repeat (first | exact Below.refl _ _ | apply pw_below_drewN | apply Below.drew | apply below_alloc))))
    (first
    | (go_at_call 16; (refine (text_rpS (p := p) (s := x.f2) ?ca).mono ?_); (case ca => exact HS.out.rp.below (below_step BX.out (Q5.b (V := wX) (gX := gX) (x := x) (p := p) (A := A) (c := c) (B := B) (d := d) (by assumption)))); rintro e w5 ⟨rfl, hb5⟩; have HS5 := Lib.hid (Q5.next (V := wX) (gX := gX) (x := x) (p := p) (A := A) (c := c) (B := B) (d := d) (by assumption) hb5); have XR5 := Lib.hid (blk_below XR.out (below_step (by (with_reducible repeat (first | exact Below.refl _ _ | apply pw_below_drewN | apply Below.drew | apply below_alloc))) hb5)); clear hb5)
    | (go_at_call 33; (refine (clone67 A c x.f3 _ ?cb HS.out.c3 ?cl).mono ?_); (case cb => exact Kd.C_below HS.out.r3 (below_step BX.out (Q5.b (V := wX) (gX := gX) (x := x) (p := p) (A := A) (c := c) (B := B) (d := d) (by assumption)))); (case cl => have := HZ.out.s3; omega); rintro e w6 ⟨v6, rfl, hr6, hb6⟩; obtain ⟨A6, c6, e6⟩ := Kd.R_slice hr6; subst e6; have HS6 := Lib.hid (Q5.next (V := wX) (gX := gX) (x := x) (p := p) (A := A) (c := c) (B := B) (d := d) (by assumption) hb6); have XR6 := Lib.hid (blk_below XR5.out (below_step (by (with_reducible repeat (first | exact Below.refl _ _ | apply pw_below_drewN | apply Below.drew | apply below_alloc))) hb6)); have R6 := Lib.hid (Kd.R_lower hr6 (below_step BX.out (Q5.b (V := wX) (gX := gX) (x := x) (p := p) (A := A) (c := c) (B := B) (d := d) (by assumption))).size); clear hr6 hb6)
    | (go_at_call 34; (refine (clone70 B d x.f4 _ ?cc HS.out.c4 ?cm).mono ?_); (case cc => exact Kd.C_below HS.out.r4 (below_step BX.out (Q5.b (V := wX) (gX := gX) (x := x) (p := p) (A := A) (c := c) (B := B) (d := d) (by assumption)))); (case cm => have := HZ.out.s4; omega); rintro e w7 ⟨v7, rfl, hr7, hb7⟩; obtain ⟨A7, c7, e7⟩ := Kd.R_slice hr7; subst e7; have R7 := Lib.hid (Kd.R_lower hr7 (below_step BX.out (Q5.b (V := wX) (gX := gX) (x := x) (p := p) (A := A) (c := c) (B := B) (d := d) (by assumption))).size); have HS7 := Lib.hid (Q5.next (V := wX) (gX := gX) (x := x) (p := p) (A := A) (c := c) (B := B) (d := d) (by assumption) hb7); have XR7 := Lib.hid (blk_below XR6.out (below_step (by (with_reducible repeat (first | exact Below.refl _ _ | apply pw_below_drewN | apply Below.drew | apply below_alloc))) hb7)); have R6b := Lib.hid (Kd.R_below R6.out (below_step (by (with_reducible repeat (first | exact Below.refl _ _ | apply pw_below_drewN | apply Below.drew | apply below_alloc))) hb7)); have q0 := (blk_cell XR7.out 0).trans rfl; have q1 := (blk_cell XR7.out 1).trans rfl; have q2 := (blk_cell XR7.out 2).trans rfl; have q3 := (blk_cell XR7.out 3).trans rfl; have q4 := (blk_cell XR7.out 4).trans rfl; have f0 := blk_frozen XR7.out 0; have f1 := blk_frozen XR7.out 1; have f2 := blk_frozen XR7.out 2; have f3 := blk_frozen XR7.out 3; have f4 := blk_frozen XR7.out 4; clear hr7 hb7))
  all_goals
    go_wp2
    have H0 := XR7.out
    have S6 := r_set (by decide) rfl (r_set (by decide) rfl (r_set (by decide) rfl (r_set (by decide) rfl (r_set (by decide) rfl ⟨R6b.out, H0⟩ 0 (.int .i64 x.f0)) 1 (.int .i64 x.f1)) 2 (.string x.f2)) 3 (.slice A6 x.f3.length c6)) 4 (.slice A7 x.f4.length c7)
    have S7 := r_set (by decide) rfl (r_set (by decide) rfl (r_set (by decide) rfl (r_set (by decide) rfl (r_set (by decide) rfl ⟨R7.out, H0⟩ 0 (.int .i64 x.f0)) 1 (.int .i64 x.f1)) 2 (.string x.f2)) 3 (.slice A6 x.f3.length c6)) 4 (.slice A7 x.f4.length c7)
    have GE : w.heap.size ≤ gR := Nat.le_trans BX.out.size GX.out
    refine bodyPost_ret (results_cell_row rfl _ _ gR 25 (gC x A6 c6 A7 c7) (0, 0) _ rfl (by simpa using S6.2) Tryd.underlying25 rfl (by kernel_rfl)) rfl ?_
    exact ⟨A6, c6, A7, c7, rfl, S6.1, S7.1, below_set (below_set (below_set (below_set (below_set (below_step BX.out (Q5.b HS7.out)) GE) GE) GE) GE) GE⟩
end Go.Proofs.YtjphmebhofkhcaaDoor.Seg
