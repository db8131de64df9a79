/- The walk of the document's Push. Conditions: at most 2^40 things. -/
import Derived.Test.YthkihkkmoknbjaaDoorGC
import Derived.Defers
import Derived.Recover
import Derived.Laws.Pointers
namespace Go.Proofs.YthkihkkmoknbjaaDoor.Undo
open Go.RowKit Go.Proofs.YthkihkkmoknbjaaDoorW.PrintWords Go.Proofs.YthkihkkmoknbjaaDoorW.PrintLast Go.Proofs.YthkihkkmoknbjaaDoorW.PrintMore Go.Proofs.YthkihkkmoknbjaaDoor.Rope Go.Proofs.YthkihkkmoknbjaaDoor.PUndoFinds
set_option linter.unusedVariables false
set_option linter.unusedSimpArgs false
attribute [local go_sem] max2_int min2_int max_two min_two
theorem U_M_of_K {w : World} {base : Nat} {ok : Nat → Prop} (x : U) (cs : List Value) (h : k23.K w x cs) : k23.M w base ok x cs := by
  obtain rfl := k23_open h
  exact k23_mkM _ _ _ _
/-- What the document's Push makes. -/
def puU (xs : List U) (x : U) (d : Int) : List U := if max d 1 < ((xs.length + 1 : Nat) : Int) then (xs ++ [x]).drop 1 else xs ++ [x]
def goU (xs : List U) (x : U) (d : Int) : List U := if max d 1 < ((xs.length + 1 : Nat) : Int) then (xs ++ [x]).take 1 else []
def RetPushU (xs : List U) (x : U) (d : Int) (w : World) (e : Ending) (w' : World) : Prop :=
  ∃ A1 c1 A2 c2, e = .returned (.tuple #[.slice A1 (puU xs x d).length c1, .slice A2 (goU xs x d).length c2]) ∧ (puU xs x d).length ≤ c1 ∧ (goU xs x d).length ≤ c2 ∧ Kd.C k23 w' A1 (puU xs x d).length (puU xs x d) ∧ Kd.C k23 w' A2 (goU xs x d).length (goU xs x d) ∧ Below w.heap.size w w'
/-- What holds all along the drawn region. -/
abbrev Q5 (w0 : World) (g : Nat) (x : U) (w' : World) : Prop :=
  w'.cell? ⟨g, 0, none⟩ = some (.int .i64 x.f0) ∧ w'.cell? ⟨g, 1, none⟩ = some (.int .i64 x.f1) ∧ w'.cell? ⟨g, 2, none⟩ = some (.int .i64 x.f2) ∧ w'.cell? ⟨g, 3, none⟩ = some (.int .i64 x.f3) ∧ w'.cell? ⟨g, 4, none⟩ = some (.string x.f4) ∧ Below w0.heap.size w0 w'
theorem Q5.b {w0 W : World} {g : Nat} {x : U} (h : Q5 w0 g x W) : Below w0.heap.size w0 W := h.2.2.2.2.2
theorem Q5.next {w0 W W' : World} {g : Nat} {x : U} (h : Q5 w0 g x W) (hb : Below W.heap.size W W') : Q5 w0 g x W' :=
  ⟨pw_cell_below hb h.1, pw_cell_below hb h.2.1, pw_cell_below hb h.2.2.1, pw_cell_below hb h.2.2.2.1, pw_cell_below hb h.2.2.2.2.1, below_step h.2.2.2.2.2 hb⟩
theorem Q5.of {w0 W : World} {g : Nat} {x : U} (h : w0.heap[g]? = some (.cells (ldCells x) 23 (0, 0))) (hb : Below w0.heap.size w0 W) : Q5 w0 g x W :=
  have h' := blk_below h hb
  ⟨blk_cell h' 0, blk_cell h' 1, blk_cell h' 2, blk_cell h' 3, blk_cell h' 4, hb⟩
theorem blk_newAt {w : World} {o : Obj} {g : Nat} (h : g = w.heap.size) : (w.alloc o).heap[g]? = some o := by rw [h]; exact blk_new w o
theorem R_empty {W : World} {base g : Nat} (h : W.heap[g]? = some (.cells #[] 23 (0, 0))) (hb : base ≤ g) : Kd.R k23 23 W base (fun _ => True) (.slice (some ⟨g, 0, none⟩) 0 0) [] :=
  ⟨fun _ _ => trivial, [], ⟨rfl, .inr ⟨g, 0, #[], rfl, hb, h, Nat.le_refl _, by decide, rfl, rfl⟩⟩, Reps.none _ _⟩
theorem cut_to' {A : Option Addr} {n c : Nat} (h : 1 ≤ n) (hc : n ≤ c) : ∀ W, (Instr.slice 30 (.slice A n c) none (some (.int .i64 1)) none).run Tryd.prog W = .ok (.slice A 1 c) W := by
  intro W
  obtain ⟨i, hi, hs⟩ : ∃ i, Tryd.prog.info? 23 = some i ∧ i.size = 5 := by
    obtain ⟨i, h1, h2⟩ := Option.map_eq_some_iff.1 info23
    simp only [Prod.mk.injEq] at h2
    exact ⟨i, h1, h2.2.1⟩
  exact cut_to (P := Tryd.prog) 30 23 .i64 Tryd.underlying30 hi A n c 1 (by omega) (by omega) hc W
theorem gen_x13 {Γ : Prop} {W w11 : World} {g : Nat} {x : U} {row : Option Nat} (h : W.heap[g]? = some (.cells (ldCells x) 23 (0, 0))) (hg : W.grownBy w11 row) (hn : some g ≠ row) (k : Hid (w11.heap[g]? = some (.cells (ldCells x) 23 (0, 0))) → Γ) : Γ :=
  k (Lib.hid (blk_grown h hg hn))
set_option maxRecDepth 1000000 in
set_option maxHeartbeats 4000000 in
theorem refPush_calls (A : Option Addr) (c : Nat) (xs : List U) (x : U) (d : Int) (w : World) (hr : Kd.C k23 w A xs.length xs) (hc : xs.length ≤ c) (hl : xs.length ≤ 1099511627776) :
    Calls Tryd.prog 19 #[.slice A xs.length c, .agg (ldCells x), .int .i64 d] w (RetPushU xs x d w) := by
  have HR := Lib.hid hr
  clear hr
  go_enter Tryd.func19, Tryd.ntmps19
  go_upto_region 1 with (first | ((with_reducible refine gate_dst (N := 4) rfl ?_); refine box_event ?hg (N := 4) ?hd (cs := ldCells x) (t := 23) ?hr ?_; (case hd => rfl); (case hg => rfl); (case hr => first | (go_simp; done) | (go_simp; rfl)); intro gX hgX wX hxX hbX; have BX := Lib.hid hbX; have XX := Lib.hid hxX; clear hgX hxX hbX))
  have QS := Lib.hid (Q5.of XX.out (Below.refl _ _))
  go_region_held3 (fun w' => Q5 wX gX x w')
    (first | (with_reducible assumption) | (with_reducible exact HS11.out) | (with_reducible exact HS14.out) | (with_reducible exact Q5.next HS11.out (below_alloc (Below.refl _ _) _)) | exact QS.out.next (by (with_reducible repeat (first | exact Below.refl _ _ | apply pw_below_drewN | apply Below.drew | apply below_alloc))))
    (first
      | (refine Kd.R_append_rows_step k23 (w0 := wX) (Rr := k23.K _) wX.heap.size ?hw (.tmp 9) (.tmp 10) 30 23 (.agg #[(.int .i64 0), (.int .i64 0), (.int .i64 0), (.int .i64 0), (.string ⟨#[]⟩)]) 48 ?ho Tryd.underlying30 info23 rfl ?hp1 ?hp2 _ [] xs A xs.length c (fun _ => True) (fun _ => False) rfl rfl ?h1 ?h2 (fun x cs h => U_M_of_K x cs h) (fun _ h => h.elim) (fun _ _ => trivial) ?h3 ?h4 ?h5 ?_
         (case ho => rfl); (case hw => rfl); (case hp1 => decide); (case hp2 => decide)
         (case h1 => first | exact R_empty (blk_newAt (by simp)) (by simp; try omega) | exact R_empty (blk_drew (blk_newAt (by simp))) (by simp; try omega) | exact R_empty (blk_alloc (blk_newAt (by simp)) _) (by simp; try omega) | exact R_empty (blk_drew (blk_alloc (blk_newAt (by simp)) _)) (by simp; try omega))
         (case h2 => exact Kd.C_below HR.out (below_step BX.out (Q5.b (w0 := wX) (g := gX) (x := x) (by assumption))))
         (case h3 => exact Q5.b (w0 := wX) (g := gX) (x := x) (by assumption))
         (case h4 => exact (Q5.b (w0 := wX) (g := gX) (x := x) (by assumption)).size)
         (case h5 => simp; omega)
         intro v11 w11 ho11 hb11 hg11 hat11
         have HS11 := Lib.hid (Q5.of XX.out hb11)
         have HO11 := Lib.hid ho11
         first | (refine gen_x13 (W := _) (w11 := w11) (g := wX.heap.size + 1) (x := x) ?hq hg11 ?hn (fun X13 => ?_); (case hq => first | exact blk_newAt (by simp) | exact blk_alloc (blk_newAt rfl) _); (case hn => intro e; have e2 : wX.heap.size + 1 = wX.heap.size := Option.some.inj e; omega)) | (refine gen_x13 (W := _) (w11 := w11) (g := wX.heap.size) (x := x) ?hqb hg11 ?hnb (fun X13 => ?_); (case hqb => first | exact blk_newAt (by simp) | exact blk_alloc (blk_newAt rfl) _); (case hnb => intro e; have e2 : wX.heap.size = wX.heap.size + 1 := Option.some.inj e; omega)) | skip
         clear ho11 hb11 hg11 hat11)
      | (refine Kd.R_append_rows_step k23 (w0 := wX) (Rr := k23.K _) wX.heap.size ?hwb (.tmp 11) (.tmp 13) 30 23 (.agg #[(.int .i64 0), (.int .i64 0), (.int .i64 0), (.int .i64 0), (.string ⟨#[]⟩)]) 48 ?hob Tryd.underlying30 info23 rfl ?hp1b ?hp2b _ xs [x] _ 1 1 (fun _ => True) (fun _ => False) rfl rfl ?h1b ?h2b (fun x cs h => U_M_of_K x cs h) (fun _ h => h.elim) (fun _ _ => trivial) ?h3b ?h4b ?h5b ?_
         (case hob => rfl); (case hwb => rfl); (case hp1b => decide); (case hp2b => decide)
         (case h1b => first | exact HO11.out | exact Kd.R_below HO11.out (below_alloc (Below.refl _ _) _))
         (case h2b => first | exact C_one (blk_newAt rfl) | exact C_one X13.out)
         (case h3b => exact Q5.b (w0 := wX) (g := gX) (x := x) (by assumption))
         (case h4b => exact (Q5.b (w0 := wX) (g := gX) (x := x) (by assumption)).size)
         (case h5b => omega)
         intro v14 w14 ho14 hb14 hg14 hat14
         have HS14 := Lib.hid (Q5.of XX.out hb14)
         have HO14 := Lib.hid ho14
         skip
         clear ho14 hb14 hg14 hat14))
  all_goals
    have B14 := Lib.hid (below_step BX.out HS14.out.b)
    obtain ⟨g, c3, e14, _, _, _⟩ := Kd.R_form HO14.out (by simp)
    rw [List.length_append, List.length_singleton] at e14
    subst e14
    obtain ⟨e15, hc3, hC⟩ := Kd.R_reads' HO14.out
    have HC := Lib.hid hC
    have HLN := Lib.hid e15
    clear hC e15
    have hl0 : (0 : Int) ≤ (xs.length : Int) := by omega
    by_cases hbig : max d 1 < ((xs.length + 1 : Nat) : Int)
    · have e1 : decide ((1 : Int) < (xs.length : Int) + 1) = true := by simp; omega
      have e2 : decide (d < (xs.length : Int) + 1) = true := by simp; omega
      obtain ⟨A', c', hsl, hcut, hcc⟩ := cut_at HC.out (by rw [← HLN.out]; exact hc3) 1 (by simp)
      rw [show ((1 : Nat) : Int) = 1 from rfl, ← HLN.out] at hsl
      have hst := cut_to' (A := some ⟨g, 0, none⟩) (n := xs.length + 1) (c := c3) (by omega) hc3
      have PU : Hid (puU xs x d = (xs ++ [x]).drop 1) := Lib.hid (by unfold puU; rw [if_pos hbig])
      have GU : Hid (goU xs x d = (xs ++ [x]).take 1) := Lib.hid (by unfold goU; rw [if_pos hbig])
      have HL1 : Hid (((xs ++ [x]).take 1).length = 1) := Lib.hid (by simp)
      have HCT := Lib.hid (Kd.C_take HC.out (m := 1) (by simp))
      generalize (xs ++ [x]).drop 1 = ys at PU hsl hcut hcc
      generalize (xs ++ [x]).take 1 = zs at GU HL1 HCT
      have HCUT := Lib.hid hcut
      have HCC := Lib.hid hcc
      clear hbig hcut hcc
      by_cases hd1 : d < 1
      all_goals
        go_upto_region 3 with (fail)
        go_region
        all_goals
          go_wp2
          go_ret2
          refine ⟨A', c', some ⟨g, 0, none⟩, c3, ?_, ?_, ?_, ?_, ?_, B14.out.drew⟩
          · rw [PU.out, GU.out, HL1.out]; rfl
          · rw [PU.out]; exact HCC.out
          · rw [GU.out, HL1.out]; omega
          · rw [PU.out]; exact Kd.C_below HCUT.out (Below.refl _ _).drew
          · rw [GU.out]; exact Kd.C_below HCT.out (Below.refl _ _).drew
    · have PU : Hid (puU xs x d = xs ++ [x]) := Lib.hid (by unfold puU; rw [if_neg hbig])
      have GU : Hid (goU xs x d = []) := Lib.hid (by unfold goU; rw [if_neg hbig])
      have HL1 : Hid ((xs ++ [x]).length = xs.length + 1) := Lib.hid (by simp)
      by_cases hd1 : d < 1
      · have e1 : decide ((1 : Int) < (xs.length : Int) + 1) = false := by simp; omega
        clear hbig
        go_wp2
        go_ret2
        refine ⟨some ⟨g, 0, none⟩, c3, none, 0, ?_, ?_, ?_, ?_, ?_, B14.out⟩
        · rw [PU.out, GU.out, HL1.out]; rfl
        · rw [PU.out, HL1.out]; omega
        · rw [GU.out]; exact Nat.le_refl _
        · rw [PU.out]; exact HC.out
        · rw [GU.out]; exact Kd.C_nil _ _
      · have e1 : decide (d < (xs.length : Int) + 1) = false := by simp; omega
        clear hbig
        go_wp2
        go_ret2
        refine ⟨some ⟨g, 0, none⟩, c3, none, 0, ?_, ?_, ?_, ?_, ?_, B14.out⟩
        · rw [PU.out, GU.out, HL1.out]; rfl
        · rw [PU.out, HL1.out]; omega
        · rw [GU.out]; exact Nat.le_refl _
        · rw [PU.out]; exact HC.out
        · rw [GU.out]; exact Kd.C_nil _ _
end Go.Proofs.YthkihkkmoknbjaaDoor.Undo
/- The walk of the law's text: a thing's text, or that it panics. -/
namespace Go.Proofs.YthkihkkmoknbjaaDoor.Undo
open Go.RowKit Go.Proofs.YthkihkkmoknbjaaDoorW.PrintWords Go.Proofs.YthkihkkmoknbjaaDoorW.PrintLast Go.Proofs.YthkihkkmoknbjaaDoorW.PrintMore Go.Proofs.YthkihkkmoknbjaaDoor.Rope Go.Proofs.YthkihkkmoknbjaaDoor.PUndoFinds
set_option linter.unusedVariables false
set_option linter.unusedSimpArgs false
theorem catch_panicking (p : Addr) (x : Bool) (u : TypeId) (pv : Value) (older : List PanicEntry) (w : World) (hc : w.cell? p = some (.bool x)) (hz : w.frozen? p = false) :
    CallsD Tryd.prog 27 #[.pointer (some p)] (.panicking ({ v := .iface u pv, recovered := false } :: older)) w fun e u' w' =>
      e = .returned (.tuple #[]) ∧ u' = .panicking ({ v := .iface u pv, recovered := true } :: older) ∧ w' = w.setCell p (.bool true) := by
  refine callsD_of_wpS Tryd.func27 rfl fun c₀ cs hu => ?_
  apply wpS_seq
  apply wpS_region
  simp [wpOpsS, go_sem, recoverD, hu, Tryd.ntmps27, Exit.thenS]
  refine wpS_cond (t := true) (by simp [Act.eval, Array.replicate]) ?_
  simp only [if_true]
  apply wpS_region
  simp [wpOpsS, go_sem, hc, hz, bodyPostS, results, Tryd.results27]
theorem catch_idle (p : Addr) (w : World) :
    CallsD Tryd.prog 27 #[.pointer (some p)] .returning w fun e u' w' => e = .returned (.tuple #[]) ∧ u' = .returning ∧ w' = w := by
  refine callsD_of_wpS Tryd.func27 rfl fun c₀ cs hu => ?_
  apply wpS_seq
  apply wpS_region
  simp [wpOpsS, go_sem, recoverD, hu, Tryd.ntmps27, Exit.thenS]
  refine wpS_cond (t := false) (by simp [Act.eval, Array.replicate]) ?_
  simp only [Bool.false_eq_true, if_false]
  refine wpS_of_wp (wp_skip ?_)
  cases c₀
  simp_all [bodyPostS, results, Tryd.results27]
theorem as_fail (v : Value) (w : World) : (Instr.typeAssert (.iface 27 v) 20 60 false).run Tryd.prog w = .halt (.panic (.iface 15 (.pointer (some ⟨w.heap.size, 0, none⟩)))) (w.alloc (.cells #[typeHandle Tryd.prog 20, typeHandle Tryd.prog 27, typeHandle Tryd.prog 60, strVal ""] 108)) := by
  kernel_rfl
set_option maxRecDepth 1000000 in
/-- Text panics at an insertion. -/
theorem textT_put (d m l : Int) (w : World) : Calls Tryd.prog 28 #[.iface 27 (.agg #[.int .i64 d, .int .i64 m, .int .i64 l])] w fun e w' => ∃ o, e = .panicked [{ v := .iface 15 (.pointer (some ⟨w.heap.size, 0, none⟩)), recovered := false }] ∧ w.alloc o = w' := by
  have hf := as_fail (.agg #[.int .i64 d, .int .i64 m, .int .i64 l])
  generalize (#[typeHandle Tryd.prog 20, typeHandle Tryd.prog 27, typeHandle Tryd.prog 60, strVal ""] : Array Value) = cs at hf
  go_enter Tryd.func28, Tryd.ntmps28
  go_wp2
  exact ⟨rfl, _, rfl, rfl⟩
set_option maxRecDepth 1000000 in
set_option maxHeartbeats 1000000 in
theorem text_put (d m l : Int) (w : World) : Calls Tryd.prog 13 #[.iface 27 (.agg #[.int .i64 d, .int .i64 m, .int .i64 l])] w fun e w' => e = .returned (.tuple #[.string ⟨#[]⟩, .bool true]) ∧ Below w.heap.size w w' := by
  have hmf : ∀ (fn : Fn) (first cap : Array Value) (w : World), (Instr.makeFunc fn first cap).run Tryd.prog w = .ok (.func fn first cap) w := fun _ _ _ _ => rfl
  go_enter_defers Tryd.func13, Tryd.ntmps13
  go_wp2_with fail
  (go_at_call 28; refine (textT_put d m l _).mono ?_; rintro e w1 ⟨o, rfl, rfl⟩)
  refine leaves_cons (f := 27) (args := #[.pointer (some ⟨w.heap.size, 0, none⟩)]) (by simp) (by simp [go_sem]) ?_
  refine (catch_panicking ⟨w.heap.size, 0, none⟩ false 15 _ [] _ ?_ ?_).mono ?_
  · simp [go_sem]
  · simp [go_sem]
  rintro e u' w'' ⟨rfl, rfl, rfl⟩
  simp [Leaves, settle, results, Tryd.results13, go_sem]
  exact below_alloc (below_alloc (Below.refl _ _) _) _
set_option maxRecDepth 1000000 in
theorem textT_took (d m l : Int) (p : Option Addr) (w : World) : Calls Tryd.prog 28 #[.iface 60 (.agg #[.int .i64 d, .int .i64 m, .int .i64 l, .pointer p])] w fun e w' => e = .returned (.pointer p) ∧ w = w' := by
  go_enter Tryd.func28, Tryd.ntmps28
  go_wp2
  go_ret
  exact ⟨rfl, rfl⟩
set_option maxRecDepth 1000000 in
set_option maxHeartbeats 1000000 in
theorem text_took (d m l : Int) (p : Option Addr) (s : ByteArray) (w : World) (h : Rp w p s) : Calls Tryd.prog 13 #[.iface 60 (.agg #[.int .i64 d, .int .i64 m, .int .i64 l, .pointer p])] w fun e w' => e = .returned (.tuple #[.string s, .bool false]) ∧ Below w.heap.size w w' := by
  have hmf : ∀ (fn : Fn) (first cap : Array Value) (w : World), (Instr.makeFunc fn first cap).run Tryd.prog w = .ok (.func fn first cap) w := fun _ _ _ _ => rfl
  have RP := Lib.hid h
  clear h
  go_enter_defers Tryd.func13, Tryd.ntmps13
  go_wp2_with fail
  (go_at_call 28; refine (textT_took d m l p _).mono ?_; rintro e w1 ⟨rfl, rfl⟩)
  go_wp2_with fail
  have X0 := Lib.hid (blk_new w (.cells #[.bool false] 4 (0, 0)))
  (go_at_call 29; refine (text_rp (RP.out.below (below_alloc (Below.refl _ _) _))).mono ?_; rintro e w2 ⟨rfl, hb2⟩)
  have x2 := blk_below X0.out hb2
  have c2 : w2.cell? ⟨w.heap.size, 0, none⟩ = some (.bool false) := blk_cell x2 0
  have f2 := blk_frozen x2 0
  have X2 := Lib.hid x2
  have B2 := Lib.hid (below_step (below_alloc (Below.refl _ _) _) hb2)
  clear hb2 x2 X0
  go_wp2
  refine leaves_cons (f := 27) (args := #[.pointer (some ⟨w.heap.size, 0, none⟩)]) (by simp) (by simp [go_sem]) ?_
  refine (catch_idle ⟨w.heap.size, 0, none⟩ _).mono ?_
  rintro e u' w'' ⟨rfl, rfl, rfl⟩
  have c3 : (w2.setCell ⟨w.heap.size, 0, none⟩ (.bool false)).cell? ⟨w.heap.size, 0, none⟩ = some (.bool false) := (blk_cell (blk_set X2.out 0 _) 0).trans rfl
  simp [Leaves, settle, results, Tryd.results13, go_sem, c3]
  exact below_set B2.out (Nat.le_refl _)
end Go.Proofs.YthkihkkmoknbjaaDoor.Undo
/- The walk of the law UndoThings: it answers true. Conditions: the sizes that every row has; Go's two tables of utf8 as they are laid. -/
namespace Go.Proofs.YthkihkkmoknbjaaDoor.Undo
open Go.RowKit Go.Proofs.YthkihkkmoknbjaaDoorW.PrintWords Go.Proofs.YthkihkkmoknbjaaDoorW.PrintLast Go.Proofs.YthkihkkmoknbjaaDoorW.PrintMore Go.Proofs.YthkihkkmoknbjaaDoor.Rope Go.Proofs.YthkihkkmoknbjaaDoor.PUndoFinds
set_option linter.unusedVariables false
set_option linter.unusedSimpArgs false
@[go_sem] theorem as_up (v : Value) (w : World) : (Instr.typeAssert (.iface 23 v) 20 27 true).run Tryd.prog w = .ok (.tuple #[.agg #[.int .i64 0, .int .i64 0, .int .i64 0], .bool false]) w := by kernel_rfl
@[go_sem] theorem as_ut (v : Value) (w : World) : (Instr.typeAssert (.iface 23 v) 20 60 true).run Tryd.prog w = .ok (.tuple #[.agg #[.int .i64 0, .int .i64 0, .int .i64 0, .pointer none], .bool false]) w := by kernel_rfl
set_option maxRecDepth 1000000 in
theorem mark_U (v : Value) (w : World) : Calls Tryd.prog 8 #[.iface 23 v] w fun e w' => e = .returned (.tuple #[.int .i64 0, .bool false]) ∧ Below w.heap.size w w' := by
  go_enter Tryd.func8, Tryd.ntmps8
  go_wp2
  go_ret2
  refine ⟨rfl, ?_⟩
  repeat (first | exact Below.refl _ _ | apply below_alloc | (refine below_set ?_ (by simp; try omega)))
set_option maxRecDepth 1000000 in
theorem label_U (v : Value) (w : World) : Calls Tryd.prog 12 #[.iface 23 v] w fun e w' => e = .returned (.int .i64 0) ∧ Below w.heap.size w w' := by
  go_enter Tryd.func12, Tryd.ntmps12
  go_wp2
  go_ret
  refine ⟨rfl, ?_⟩
  repeat (first | exact Below.refl _ _ | apply below_alloc | (refine below_set ?_ (by simp; try omega)))
theorem refRight_calls47 (s : ByteArray) (w : World) (hs : s.size ≤ 140737488351232) : Calls Tryd.prog 9 #[.string s] w fun e w' => e = .returned (.bool (Lib.validD s.data.toList)) ∧ Below w.heap.size w w' := by
  obtain ⟨k, hk⟩ := Go.Proofs.YthkihkkmoknbjaaDoorW.PrintWords.Ev.rounds (Right_ev s (by omega))
  refine (chancelref01_Right.calls k s _ w hk).mono ?_
  rintro e w' ⟨rfl, hd⟩
  exact ⟨rfl, below_drawn hd⟩
theorem text_th_put {y : TypeId × Value} {d m l : Int} {w : World} (h : ThR w (encI y) (.put d m l)) : Calls Tryd.prog 13 #[.iface y.1 y.2] w fun e w' => e = .returned (.tuple #[.string ⟨#[]⟩, .bool true]) ∧ Below w.heap.size w w' := by
  have e : Value.iface y.1 y.2 = _ := h
  rw [e]
  exact text_put d m l w
theorem text_th_took {y : TypeId × Value} {d m l : Int} {s : ByteArray} {w : World} (h : ThR w (encI y) (.took d m l s)) : Calls Tryd.prog 13 #[.iface y.1 y.2] w fun e w' => e = .returned (.tuple #[.string s, .bool false]) ∧ Below w.heap.size w w' := by
  obtain ⟨p, hp, e⟩ := h
  have e' : Value.iface y.1 y.2 = _ := e
  rw [e']
  exact text_took d m l p s w hp
set_option maxRecDepth 1000000 in
set_option maxHeartbeats 4000000 in
theorem things_long (x : U) (w : World) (hT : Tabs w) (hz : x.f4.size ≤ 140737488351232) (h1 : 2000 < x.f4.size) :
    Calls Tryd.prog 3 #[.agg (ldCells x)] w fun e w' => e = .returned (.bool true) ∧ Below w.heap.size w w' := by
  have d1 : decide ((2000 : Int) < (x.f4.size : Int)) = true := by simp; omega
  have HT := Lib.hid hT
  clear hT
  go_enter Tryd.func3, Tryd.ntmps3
  go_wp2_with (first | ((with_reducible refine gate_dst (N := 1) rfl ?_); refine box_event ?hg (N := 1) ?hd (cs := ldCells x) (t := 23) ?hr ?_; (case hd => rfl); (case hg => rfl); (case hr => first | (go_simp; done) | (go_simp; rfl)); intro gX hgX wX hxX hbX; have BX := Lib.hid hbX; have XX := Lib.hid hxX; clear hgX hxX hbX))
  (go_at_call 8; refine (mark_calls (.put 0 3 0) _ _ rfl).mono ?_; rintro e w1 ⟨rfl, hb1⟩)
  have e3 : (Th.put 0 3 0).mark = 3 := rfl
  rw [e3]
  have B1 := Lib.hid (below_step BX.out hb1)
  have h1 := blk_below XX.out hb1
  have X1 := Lib.hid h1
  have a0 := (blk_cell h1 0).trans rfl
  have a1 := (blk_cell h1 1).trans rfl
  have a2 := (blk_cell h1 2).trans rfl
  have a3 := (blk_cell h1 3).trans rfl
  have a4 := (blk_cell h1 4).trans rfl
  clear hb1 h1 BX XX e3
  go_wp2
  go_ret
  exact ⟨rfl, B1.out⟩
set_option maxRecDepth 1000000 in
set_option maxHeartbeats 4000000 in
theorem things_bad (x : U) (w : World) (hT : Tabs w) (hz : x.f4.size ≤ 2000) (hv : Lib.validD x.f4.data.toList = false) :
    Calls Tryd.prog 3 #[.agg (ldCells x)] w fun e w' => e = .returned (.bool true) ∧ Below w.heap.size w w' := by
  have d1 : decide ((2000 : Int) < (x.f4.size : Int)) = false := by simp; omega
  have HV := Lib.hid hv
  clear hv
  have HT := Lib.hid hT
  clear hT
  go_enter Tryd.func3, Tryd.ntmps3
  go_wp2_with (first | ((with_reducible refine gate_dst (N := 1) rfl ?_); refine box_event ?hg (N := 1) ?hd (cs := ldCells x) (t := 23) ?hr ?_; (case hd => rfl); (case hg => rfl); (case hr => first | (go_simp; done) | (go_simp; rfl)); intro gX hgX wX hxX hbX; have BX := Lib.hid hbX; have XX := Lib.hid hxX; clear hgX hxX hbX))
  (go_at_call 8; refine (mark_calls (.put 0 3 0) _ _ rfl).mono ?_; rintro e w1 ⟨rfl, hb1⟩)
  have e3 : (Th.put 0 3 0).mark = 3 := rfl
  rw [e3]
  have B1 := Lib.hid (below_step BX.out hb1)
  have h1 := blk_below XX.out hb1
  have X1 := Lib.hid h1
  have a0 := (blk_cell h1 0).trans rfl
  have a1 := (blk_cell h1 1).trans rfl
  have a2 := (blk_cell h1 2).trans rfl
  have a3 := (blk_cell h1 3).trans rfl
  have a4 := (blk_cell h1 4).trans rfl
  clear hb1 h1 BX XX e3
  go_wp2_with fail
  (go_at_call 9; refine (refRight_calls47 x.f4 _ (by omega)).mono ?_; rintro e w2 ⟨rfl, hb2⟩)
  rw [HV.out]
  have B2 := Lib.hid (below_step B1.out hb2)
  have h2 := blk_below X1.out hb2
  have X2 := Lib.hid h2
  replace a0 := (blk_cell h2 0).trans rfl
  replace a1 := (blk_cell h2 1).trans rfl
  replace a2 := (blk_cell h2 2).trans rfl
  replace a3 := (blk_cell h2 3).trans rfl
  replace a4 := (blk_cell h2 4).trans rfl
  clear hb2 h2 B1 X1
  go_wp2
  go_ret
  exact ⟨rfl, B2.out⟩
set_option maxRecDepth 1000000 in
set_option maxHeartbeats 4000000 in
theorem things_no (x : U) (w : World) (hT : Tabs w) (hz : x.f4.size ≤ 2000) (hv : Lib.validD x.f4.data.toList = true) (hok : ¬ okU x) :
    Calls Tryd.prog 3 #[.agg (ldCells x)] w fun e w' => e = .returned (.bool true) ∧ Below w.heap.size w w' := by
  have d1 : decide ((2000 : Int) < (x.f4.size : Int)) = false := by simp; omega
  have HV := Lib.hid hv
  obtain ⟨k9, hk9⟩ := Go.Proofs.YthkihkkmoknbjaaDoorW.PrintWords.Ev.rounds (refRightU_ev [x] (by simp) (fun y hy => by rw [List.mem_singleton.1 hy]; exact Nat.le_trans hz (by decide)))
  rw [okB_false.2 (fun h => hok (h x (List.mem_singleton.2 rfl)))] at hk9
  have K9 := Lib.hid hk9
  clear hk9
  clear hv hok
  have HT := Lib.hid hT
  clear hT
  go_enter Tryd.func3, Tryd.ntmps3
  go_wp2_with (first | ((with_reducible refine gate_dst (N := 1) rfl ?_); refine box_event ?hg (N := 1) ?hd (cs := ldCells x) (t := 23) ?hr ?_; (case hd => rfl); (case hg => rfl); (case hr => first | (go_simp; done) | (go_simp; rfl)); intro gX hgX wX hxX hbX; have BX := Lib.hid hbX; have XX := Lib.hid hxX; clear hgX hxX hbX))
  (go_at_call 8; refine (mark_calls (.put 0 3 0) _ _ rfl).mono ?_; rintro e w1 ⟨rfl, hb1⟩)
  have e3 : (Th.put 0 3 0).mark = 3 := rfl
  rw [e3]
  have B1 := Lib.hid (below_step BX.out hb1)
  have h1 := blk_below XX.out hb1
  have X1 := Lib.hid h1
  have a0 := (blk_cell h1 0).trans rfl
  have a1 := (blk_cell h1 1).trans rfl
  have a2 := (blk_cell h1 2).trans rfl
  have a3 := (blk_cell h1 3).trans rfl
  have a4 := (blk_cell h1 4).trans rfl
  clear hb1 h1 BX XX e3
  go_wp2_with fail
  (go_at_call 9; refine (refRight_calls47 x.f4 _ (by omega)).mono ?_; rintro e w2 ⟨rfl, hb2⟩)
  rw [HV.out]
  have B2 := Lib.hid (below_step B1.out hb2)
  have h2 := blk_below X1.out hb2
  have X2 := Lib.hid h2
  replace a0 := (blk_cell h2 0).trans rfl
  replace a1 := (blk_cell h2 1).trans rfl
  replace a2 := (blk_cell h2 2).trans rfl
  replace a3 := (blk_cell h2 3).trans rfl
  replace a4 := (blk_cell h2 4).trans rfl
  clear hb2 h2 B1 X1
  go_wp2_with fail
  (go_at_call 10; refine (chancelref07_Right.calls k9 (some ⟨w2.heap.size, 0, none⟩) 1 [x] false _ (C_one (blk_newAt rfl)) (Nat.le_refl _) K9.out).mono ?_; rintro e w3 ⟨rfl, hb3⟩)
  have B3 := Lib.hid (below_step (below_alloc B2.out _) hb3)
  have h3 := blk_below (blk_alloc X2.out _) hb3
  have X3 := Lib.hid h3
  replace a0 := (blk_cell h3 0).trans rfl
  replace a1 := (blk_cell h3 1).trans rfl
  replace a2 := (blk_cell h3 2).trans rfl
  replace a3 := (blk_cell h3 3).trans rfl
  replace a4 := (blk_cell h3 4).trans rfl
  clear hb3 h3 B2 X2
  go_wp2
  go_ret
  exact ⟨rfl, B3.out⟩
set_option maxRecDepth 1000000 in
set_option maxHeartbeats 4000000 in
theorem things_put (d m l : Int) (w : World) (hT : Tabs w) (hz : (⟨#[]⟩ : ByteArray).size ≤ 2000) (hok : okU (⟨1, d, m, l, ⟨#[]⟩⟩ : U)) :
    Calls Tryd.prog 3 #[.agg (ldCells (⟨1, d, m, l, ⟨#[]⟩⟩ : U))] w fun e w' => e = .returned (.bool true) ∧ Below w.heap.size w w' := by
  have d1 : decide ((2000 : Int) < ((⟨#[]⟩ : ByteArray).size : Int)) = false := by simp; try omega
  have hz1 : ((⟨1, d, m, l, ⟨#[]⟩⟩ : U)).f4.size ≤ 1099511627776 := Nat.le_trans hz (by decide)
  have HV : Hid (Lib.validD ((⟨#[]⟩ : ByteArray)).data.toList = true) := Lib.hid hok.1
  have OKX := Lib.hid hok
  obtain ⟨k9, hk9⟩ := Go.Proofs.YthkihkkmoknbjaaDoorW.PrintWords.Ev.rounds (refRightU_ev [(⟨1, d, m, l, ⟨#[]⟩⟩ : U)] (by simp) (fun y hy => by rw [List.mem_singleton.1 hy]; exact Nat.le_trans hz (by decide)))
  rw [okB_true.2 (fun y hy => by rw [List.mem_singleton.1 hy]; exact hok)] at hk9
  have K9 := Lib.hid hk9
  clear hk9
  clear hok
  have HT := Lib.hid hT
  clear hT
  go_enter Tryd.func3, Tryd.ntmps3
  go_wp2_with (first | ((with_reducible refine gate_dst (N := 1) rfl ?_); refine box_event ?hg (N := 1) ?hd (cs := ldCells (⟨1, d, m, l, ⟨#[]⟩⟩ : U)) (t := 23) ?hr ?_; (case hd => rfl); (case hg => rfl); (case hr => first | (go_simp; done) | (go_simp; rfl)); intro gX hgX wX hxX hbX; have BX := Lib.hid hbX; have XX := Lib.hid hxX; clear hgX hxX hbX))
  (go_at_call 8; refine (mark_calls (.put 0 3 0) _ _ rfl).mono ?_; rintro e w1 ⟨rfl, hb1⟩)
  have e3 : (Th.put 0 3 0).mark = 3 := rfl
  rw [e3]
  have B1 := Lib.hid (below_step BX.out hb1)
  have h1 := blk_below XX.out hb1
  have X1 := Lib.hid h1
  have a0 := (blk_cell h1 0).trans rfl
  have a1 := (blk_cell h1 1).trans rfl
  have a2 := (blk_cell h1 2).trans rfl
  have a3 := (blk_cell h1 3).trans rfl
  have a4 := (blk_cell h1 4).trans rfl
  clear hb1 h1 BX XX e3
  go_wp2_with fail
  (go_at_call 9; refine (refRight_calls47 (⟨#[]⟩ : ByteArray) _ (by omega)).mono ?_; rintro e w2 ⟨rfl, hb2⟩)
  rw [HV.out]
  have B2 := Lib.hid (below_step B1.out hb2)
  have h2 := blk_below X1.out hb2
  have X2 := Lib.hid h2
  replace a0 := (blk_cell h2 0).trans rfl
  replace a1 := (blk_cell h2 1).trans rfl
  replace a2 := (blk_cell h2 2).trans rfl
  replace a3 := (blk_cell h2 3).trans rfl
  replace a4 := (blk_cell h2 4).trans rfl
  clear hb2 h2 B1 X1
  go_wp2_with fail
  (go_at_call 10; refine (chancelref07_Right.calls k9 (some ⟨w2.heap.size, 0, none⟩) 1 [(⟨1, d, m, l, ⟨#[]⟩⟩ : U)] true _ (C_one (blk_newAt rfl)) (Nat.le_refl _) K9.out).mono ?_; rintro e w3 ⟨rfl, hb3⟩)
  have B3 := Lib.hid (below_step (below_alloc B2.out _) hb3)
  have h3 := blk_below (blk_alloc X2.out _) hb3
  have X3 := Lib.hid h3
  replace a0 := (blk_cell h3 0).trans rfl
  replace a1 := (blk_cell h3 1).trans rfl
  replace a2 := (blk_cell h3 2).trans rfl
  replace a3 := (blk_cell h3 3).trans rfl
  replace a4 := (blk_cell h3 4).trans rfl
  clear hb3 h3 B2 X2
  go_wp2_with fail
  (go_at_call 11; refine (thing_calls (⟨1, d, m, l, ⟨#[]⟩⟩ : U) _ (HT.out.below B3.out) OKX.out hz1).mono ?_; rintro e w4 ⟨y, rfl, hy, hb4⟩)
  rw [show thOf (⟨1, d, m, l, ⟨#[]⟩⟩ : U) = (Th.put d m l) from rfl] at hy
  have Y4 := Lib.hid hy
  have B4 := Lib.hid (below_step B3.out hb4)
  have X4 := Lib.hid (blk_below X3.out hb4)
  clear hb4 hy B3 X3 a0 a1 a2 a3 a4
  go_wp2_with fail
  (go_at_call 8; refine (mark_calls (Th.put d m l) (encI y) _ Y4.out).mono ?_; rintro e w5 ⟨rfl, hb5⟩)
  rw [show ((Th.put d m l)).mark = m from rfl]
  have Y5 := Lib.hid (Y4.out.below hb5)
  have B5 := Lib.hid (below_step B4.out hb5)
  have h5 := blk_below X4.out hb5
  have X5 := Lib.hid h5
  have a0 := (blk_cell h5 0).trans rfl
  have a1 := (blk_cell h5 1).trans rfl
  have a2 := (blk_cell h5 2).trans rfl
  have a3 := (blk_cell h5 3).trans rfl
  have a4 := (blk_cell h5 4).trans rfl
  clear hb5 h5 B4 X4 Y4
  go_wp2_with fail
  (go_at_call 8; refine (mark_U _ _).mono ?_; rintro e w6 ⟨rfl, hb6⟩)
  have Y6 := Lib.hid (Y5.out.below hb6)
  have B6 := Lib.hid (below_step B5.out hb6)
  have X6 := Lib.hid (blk_below X5.out hb6)
  clear hb6 B5 X5 Y5 a0 a1 a2 a3 a4
  have QS := Lib.hid (Q5.of X6.out (Below.refl _ _))
  go_upto_region 9 with (fail)
  go_region_held3 (fun w' => Q5 w6 gX (⟨1, d, m, l, ⟨#[]⟩⟩ : U) w')
    (first | (with_reducible assumption) | (with_reducible exact HS7.out) | (with_reducible exact HS8.out) | exact QS.out.next (by (with_reducible repeat (first | exact Below.refl _ _ | apply pw_below_drewN | apply Below.drew | apply below_alloc))))
    (first
      | (go_at_call 12; (with_reducible refine (label_calls (Th.put d m l) (.iface y.1 y.2) _ ?ca).mono ?_); (case ca => exact Y6.out.below (Q5.b (w0 := w6) (g := gX) (x := (⟨1, d, m, l, ⟨#[]⟩⟩ : U)) (by assumption))); rintro e w7 ⟨rfl, hb7⟩; rw [show ((Th.put d m l)).label = l from rfl]; have HS7 := Lib.hid (Q5.next (w0 := w6) (g := gX) (x := (⟨1, d, m, l, ⟨#[]⟩⟩ : U)) (by assumption) hb7); clear hb7)
      | (go_at_call 12; (with_reducible refine (label_U _ _).mono ?_); rintro e w8 ⟨rfl, hb8⟩; have HS8 := Lib.hid (Q5.next (w0 := w6) (g := gX) (x := (⟨1, d, m, l, ⟨#[]⟩⟩ : U)) (by assumption) hb8); clear hb8))
  all_goals
    have B8 := Lib.hid (below_step B6.out (Q5.b HS8.out))
    have Y8 := Lib.hid (Y6.out.below (Q5.b HS8.out))
    have X8 := Lib.hid (blk_below X6.out (Q5.b HS8.out))
    clear HS7 HS8 QS B6 X6 Y6
    go_wp2_with fail
    (go_at_call 13; refine (text_th_put Y8.out).mono ?_; rintro e w9 ⟨rfl, hb9⟩)
    have B9 := Lib.hid (below_step B8.out hb9)
    have h9 := blk_below X8.out hb9
    have a0 := (blk_cell h9 0).trans rfl
    have a1 := (blk_cell h9 1).trans rfl
    have a2 := (blk_cell h9 2).trans rfl
    have a3 := (blk_cell h9 3).trans rfl
    have a4 := (blk_cell h9 4).trans rfl
    clear hb9 h9 B8 X8 Y8
    go_wp2
    go_ret
    exact ⟨rfl, B9.out⟩
set_option maxRecDepth 1000000 in
set_option maxHeartbeats 4000000 in
theorem things_took (d m l : Int) (s : ByteArray) (w : World) (hT : Tabs w) (hz : s.size ≤ 2000) (hok : okU (⟨2, d, m, l, s⟩ : U)) :
    Calls Tryd.prog 3 #[.agg (ldCells (⟨2, d, m, l, s⟩ : U))] w fun e w' => e = .returned (.bool true) ∧ Below w.heap.size w w' := by
  have d1 : decide ((2000 : Int) < (s.size : Int)) = false := by simp; try omega
  have hz1 : ((⟨2, d, m, l, s⟩ : U)).f4.size ≤ 1099511627776 := Nat.le_trans hz (by decide)
  have HV : Hid (Lib.validD (s).data.toList = true) := Lib.hid hok.1
  have OKX := Lib.hid hok
  obtain ⟨k9, hk9⟩ := Go.Proofs.YthkihkkmoknbjaaDoorW.PrintWords.Ev.rounds (refRightU_ev [(⟨2, d, m, l, s⟩ : U)] (by simp) (fun y hy => by rw [List.mem_singleton.1 hy]; exact Nat.le_trans hz (by decide)))
  rw [okB_true.2 (fun y hy => by rw [List.mem_singleton.1 hy]; exact hok)] at hk9
  have K9 := Lib.hid hk9
  clear hk9
  clear hok
  have HT := Lib.hid hT
  clear hT
  go_enter Tryd.func3, Tryd.ntmps3
  go_wp2_with (first | ((with_reducible refine gate_dst (N := 1) rfl ?_); refine box_event ?hg (N := 1) ?hd (cs := ldCells (⟨2, d, m, l, s⟩ : U)) (t := 23) ?hr ?_; (case hd => rfl); (case hg => rfl); (case hr => first | (go_simp; done) | (go_simp; rfl)); intro gX hgX wX hxX hbX; have BX := Lib.hid hbX; have XX := Lib.hid hxX; clear hgX hxX hbX))
  (go_at_call 8; refine (mark_calls (.put 0 3 0) _ _ rfl).mono ?_; rintro e w1 ⟨rfl, hb1⟩)
  have e3 : (Th.put 0 3 0).mark = 3 := rfl
  rw [e3]
  have B1 := Lib.hid (below_step BX.out hb1)
  have h1 := blk_below XX.out hb1
  have X1 := Lib.hid h1
  have a0 := (blk_cell h1 0).trans rfl
  have a1 := (blk_cell h1 1).trans rfl
  have a2 := (blk_cell h1 2).trans rfl
  have a3 := (blk_cell h1 3).trans rfl
  have a4 := (blk_cell h1 4).trans rfl
  clear hb1 h1 BX XX e3
  go_wp2_with fail
  (go_at_call 9; refine (refRight_calls47 s _ (by omega)).mono ?_; rintro e w2 ⟨rfl, hb2⟩)
  rw [HV.out]
  have B2 := Lib.hid (below_step B1.out hb2)
  have h2 := blk_below X1.out hb2
  have X2 := Lib.hid h2
  replace a0 := (blk_cell h2 0).trans rfl
  replace a1 := (blk_cell h2 1).trans rfl
  replace a2 := (blk_cell h2 2).trans rfl
  replace a3 := (blk_cell h2 3).trans rfl
  replace a4 := (blk_cell h2 4).trans rfl
  clear hb2 h2 B1 X1
  go_wp2_with fail
  (go_at_call 10; refine (chancelref07_Right.calls k9 (some ⟨w2.heap.size, 0, none⟩) 1 [(⟨2, d, m, l, s⟩ : U)] true _ (C_one (blk_newAt rfl)) (Nat.le_refl _) K9.out).mono ?_; rintro e w3 ⟨rfl, hb3⟩)
  have B3 := Lib.hid (below_step (below_alloc B2.out _) hb3)
  have h3 := blk_below (blk_alloc X2.out _) hb3
  have X3 := Lib.hid h3
  replace a0 := (blk_cell h3 0).trans rfl
  replace a1 := (blk_cell h3 1).trans rfl
  replace a2 := (blk_cell h3 2).trans rfl
  replace a3 := (blk_cell h3 3).trans rfl
  replace a4 := (blk_cell h3 4).trans rfl
  clear hb3 h3 B2 X2
  go_wp2_with fail
  (go_at_call 11; refine (thing_calls (⟨2, d, m, l, s⟩ : U) _ (HT.out.below B3.out) OKX.out hz1).mono ?_; rintro e w4 ⟨y, rfl, hy, hb4⟩)
  rw [show thOf (⟨2, d, m, l, s⟩ : U) = (Th.took d m l s) from rfl] at hy
  have Y4 := Lib.hid hy
  have B4 := Lib.hid (below_step B3.out hb4)
  have X4 := Lib.hid (blk_below X3.out hb4)
  clear hb4 hy B3 X3 a0 a1 a2 a3 a4
  go_wp2_with fail
  (go_at_call 8; refine (mark_calls (Th.took d m l s) (encI y) _ Y4.out).mono ?_; rintro e w5 ⟨rfl, hb5⟩)
  rw [show ((Th.took d m l s)).mark = m from rfl]
  have Y5 := Lib.hid (Y4.out.below hb5)
  have B5 := Lib.hid (below_step B4.out hb5)
  have h5 := blk_below X4.out hb5
  have X5 := Lib.hid h5
  have a0 := (blk_cell h5 0).trans rfl
  have a1 := (blk_cell h5 1).trans rfl
  have a2 := (blk_cell h5 2).trans rfl
  have a3 := (blk_cell h5 3).trans rfl
  have a4 := (blk_cell h5 4).trans rfl
  clear hb5 h5 B4 X4 Y4
  go_wp2_with fail
  (go_at_call 8; refine (mark_U _ _).mono ?_; rintro e w6 ⟨rfl, hb6⟩)
  have Y6 := Lib.hid (Y5.out.below hb6)
  have B6 := Lib.hid (below_step B5.out hb6)
  have X6 := Lib.hid (blk_below X5.out hb6)
  clear hb6 B5 X5 Y5 a0 a1 a2 a3 a4
  have QS := Lib.hid (Q5.of X6.out (Below.refl _ _))
  go_upto_region 9 with (fail)
  go_region_held3 (fun w' => Q5 w6 gX (⟨2, d, m, l, s⟩ : U) w')
    (first | (with_reducible assumption) | (with_reducible exact HS7.out) | (with_reducible exact HS8.out) | exact QS.out.next (by (with_reducible repeat (first | exact Below.refl _ _ | apply pw_below_drewN | apply Below.drew | apply below_alloc))))
    (first
      | (go_at_call 12; (with_reducible refine (label_calls (Th.took d m l s) (.iface y.1 y.2) _ ?ca).mono ?_); (case ca => exact Y6.out.below (Q5.b (w0 := w6) (g := gX) (x := (⟨2, d, m, l, s⟩ : U)) (by assumption))); rintro e w7 ⟨rfl, hb7⟩; rw [show ((Th.took d m l s)).label = l from rfl]; have HS7 := Lib.hid (Q5.next (w0 := w6) (g := gX) (x := (⟨2, d, m, l, s⟩ : U)) (by assumption) hb7); clear hb7)
      | (go_at_call 12; (with_reducible refine (label_U _ _).mono ?_); rintro e w8 ⟨rfl, hb8⟩; have HS8 := Lib.hid (Q5.next (w0 := w6) (g := gX) (x := (⟨2, d, m, l, s⟩ : U)) (by assumption) hb8); clear hb8))
  all_goals
    have B8 := Lib.hid (below_step B6.out (Q5.b HS8.out))
    have Y8 := Lib.hid (Y6.out.below (Q5.b HS8.out))
    have X8 := Lib.hid (blk_below X6.out (Q5.b HS8.out))
    clear HS7 HS8 QS B6 X6 Y6
    go_wp2_with fail
    (go_at_call 13; refine (text_th_took Y8.out).mono ?_; rintro e w9 ⟨rfl, hb9⟩)
    have B9 := Lib.hid (below_step B8.out hb9)
    have h9 := blk_below X8.out hb9
    have a0 := (blk_cell h9 0).trans rfl
    have a1 := (blk_cell h9 1).trans rfl
    have a2 := (blk_cell h9 2).trans rfl
    have a3 := (blk_cell h9 3).trans rfl
    have a4 := (blk_cell h9 4).trans rfl
    clear hb9 h9 B8 X8 Y8
    go_wp2
    go_ret
    exact ⟨rfl, B9.out⟩
theorem undoThings_walk (x : U) (w : World) (hT : Tabs w) (hz : x.f4.size ≤ 140737488351232) :
    Calls Tryd.prog 3 #[.agg (ldCells x)] w fun e w' => e = .returned (.bool true) ∧ Below w.heap.size w w' := by
  by_cases h1 : 2000 < x.f4.size
  · exact things_long x w hT hz h1
  · have hz2 : x.f4.size ≤ 2000 := by omega
    by_cases hv : Lib.validD x.f4.data.toList = true
    · by_cases hok : okU x
      · obtain ⟨x0, x1, x2, x3, x4⟩ := x
        rcases hok.2 with ⟨e0, e4⟩ | e0
        · have e0' : x0 = 1 := e0
          have e4' : x4 = ⟨#[]⟩ := by
            apply ByteArray.ext
            exact Array.eq_empty_of_size_eq_zero e4
          subst e0'; subst e4'
          exact things_put x1 x2 x3 w hT hz2 hok
        · have e0' : x0 = 2 := e0
          subst e0'
          exact things_took x1 x2 x3 x4 w hT hz2 hok
      · exact things_no x w hT hz2 hv hok
    · exact things_bad x w hT hz2 (Bool.eq_false_iff.2 hv)
end Go.Proofs.YthkihkkmoknbjaaDoor.Undo
