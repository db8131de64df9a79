/- The walk of the document's Push. Conditions: at most 2^40 things. -/
import Derived.Test.YthkihkkmoknbjaaDoorGC
import Derived.Test.YthkihkkmoknbjaaDoorGD
namespace Go.Proofs.YthkihkkmoknbjaaDoor.Undo
open Go.RowKit Go.Proofs.YthkihkkmoknbjaaDoorW.PrintWords Go.Proofs.YthkihkkmoknbjaaDoorW.PrintLast Go.Proofs.YthkihkkmoknbjaaDoorW.PrintMore Go.Proofs.YthkihkkmoknbjaaDoor.Rope Go.Proofs.YthkihkkmoknbjaaDoor.PUndoFinds
set_option linter.unusedVariables false
set_option linter.unusedSimpArgs false
attribute [local go_sem] max2_int min2_int max_two min_two
theorem U_M_of_K {w : World} {base : Nat} {ok : Nat → Prop} (x : U) (cs : List Value) (h : k23.K w x cs) : k23.M w base ok x cs := by
  obtain rfl := k23_open h
  exact k23_mkM _ _ _ _
/-- What the document's Push makes. -/
def puU (xs : List U) (x : U) (d : Int) : List U := if max d 1 < ((xs.length + 1 : Nat) : Int) then (xs ++ [x]).drop 1 else xs ++ [x]
def goU (xs : List U) (x : U) (d : Int) : List U := if max d 1 < ((xs.length + 1 : Nat) : Int) then (xs ++ [x]).take 1 else []
def RetPushU (xs : List U) (x : U) (d : Int) (w : World) (e : Ending) (w' : World) : Prop :=
  ∃ A1 c1 A2 c2, e = .returned (.tuple #[.slice A1 (puU xs x d).length c1, .slice A2 (goU xs x d).length c2]) ∧ (puU xs x d).length ≤ c1 ∧ (goU xs x d).length ≤ c2 ∧ Kd.C k23 w' A1 (puU xs x d).length (puU xs x d) ∧ Kd.C k23 w' A2 (goU xs x d).length (goU xs x d) ∧ Below w.heap.size w w'
/-- What holds all along the drawn region. -/
abbrev Q5 (w0 : World) (g : Nat) (x : U) (w' : World) : Prop :=
  w'.cell? ⟨g, 0, none⟩ = some (.int .i64 x.f0) ∧ w'.cell? ⟨g, 1, none⟩ = some (.int .i64 x.f1) ∧ w'.cell? ⟨g, 2, none⟩ = some (.int .i64 x.f2) ∧ w'.cell? ⟨g, 3, none⟩ = some (.int .i64 x.f3) ∧ w'.cell? ⟨g, 4, none⟩ = some (.string x.f4) ∧ Below w0.heap.size w0 w'
theorem Q5.b {w0 W : World} {g : Nat} {x : U} (h : Q5 w0 g x W) : Below w0.heap.size w0 W := h.2.2.2.2.2
theorem Q5.next {w0 W W' : World} {g : Nat} {x : U} (h : Q5 w0 g x W) (hb : Below W.heap.size W W') : Q5 w0 g x W' :=
  ⟨pw_cell_below hb h.1, pw_cell_below hb h.2.1, pw_cell_below hb h.2.2.1, pw_cell_below hb h.2.2.2.1, pw_cell_below hb h.2.2.2.2.1, below_step h.2.2.2.2.2 hb⟩
theorem Q5.of {w0 W : World} {g : Nat} {x : U} (h : w0.heap[g]? = some (.cells (ldCells x) 23 (0, 0))) (hb : Below w0.heap.size w0 W) : Q5 w0 g x W :=
  have h' := blk_below h hb
  ⟨blk_cell h' 0, blk_cell h' 1, blk_cell h' 2, blk_cell h' 3, blk_cell h' 4, hb⟩
theorem blk_newAt {w : World} {o : Obj} {g : Nat} (h : g = w.heap.size) : (w.alloc o).heap[g]? = some o := by rw [h]; exact blk_new w o
theorem R_empty {W : World} {base g : Nat} (h : W.heap[g]? = some (.cells #[] 23 (0, 0))) (hb : base ≤ g) : Kd.R k23 23 W base (fun _ => True) (.slice (some ⟨g, 0, none⟩) 0 0) [] :=
  ⟨fun _ _ => trivial, [], ⟨rfl, .inr ⟨g, 0, #[], rfl, hb, h, Nat.le_refl _, by decide, rfl, rfl⟩⟩, Reps.none _ _⟩
theorem cut_to' {A : Option Addr} {n c : Nat} (h : 1 ≤ n) (hc : n ≤ c) : ∀ W, (Instr.slice 30 (.slice A n c) none (some (.int .i64 1)) none).run Tryd.prog W = .ok (.slice A 1 c) W := by
  intro W
  obtain ⟨i, hi, hs⟩ : ∃ i, Tryd.prog.info? 23 = some i ∧ i.size = 5 := by
    obtain ⟨i, h1, h2⟩ := Option.map_eq_some_iff.1 info23
    simp only [Prod.mk.injEq] at h2
    exact ⟨i, h1, h2.2.1⟩
  exact cut_to (P := Tryd.prog) 30 23 .i64 Tryd.underlying30 hi A n c 1 (by omega) (by omega) hc W
theorem gen_x13 {Γ : Prop} {W w11 : World} {g : Nat} {x : U} {row : Option Nat} (h : W.heap[g]? = some (.cells (ldCells x) 23 (0, 0))) (hg : W.grownBy w11 row) (hn : some g ≠ row) (k : Hid (w11.heap[g]? = some (.cells (ldCells x) 23 (0, 0))) → Γ) : Γ :=
  k (Lib.hid (blk_grown h hg hn))
set_option maxRecDepth 1000000 in
set_option maxHeartbeats 4000000 in
theorem refPush_calls (A : Option Addr) (c : Nat) (xs : List U) (x : U) (d : Int) (w : World) (hr : Kd.C k23 w A xs.length xs) (hc : xs.length ≤ c) (hl : xs.length ≤ 1099511627776) :
    Calls Tryd.prog 19 #[.slice A xs.length c, .agg (ldCells x), .int .i64 d] w (RetPushU xs x d w) := by
  have HR := Lib.hid hr
  clear hr
  go_enter Tryd.func19, Tryd.ntmps19
  go_upto_region 1 with (first | ((with_reducible refine gate_dst (N := 4) rfl ?_); refine box_event ?hg (N := 4) ?hd (cs := ldCells x) (t := 23) ?hr ?_; (case hd => rfl); (case hg => rfl); (case hr => first | (go_simp; done) | (go_simp; rfl)); intro gX hgX wX hxX hbX; have BX := Lib.hid hbX; have XX := Lib.hid hxX; clear hgX hxX hbX))
  have QS := Lib.hid (Q5.of XX.out (Below.refl _ _))
  go_region_held3 (fun w' => Q5 wX gX x w')
    (first | (with_reducible assumption) | (with_reducible exact HS11.out) | (with_reducible exact HS14.out) | (with_reducible exact Q5.next HS11.out (below_alloc (Below.refl _ _) _)) | exact QS.out.next (by (with_reducible repeat (first | exact Below.refl _ _ | apply pw_below_drewN | apply Below.drew | apply below_alloc))))
    (first
      | (refine Kd.R_append_rows_step k23 (w0 := wX) (Rr := k23.K _) wX.heap.size ?hw (.tmp 9) (.tmp 10) 30 23 (.agg #[(.int .i64 0), (.int .i64 0), (.int .i64 0), (.int .i64 0), (.string ⟨#[]⟩)]) 48 ?ho Tryd.underlying30 info23 rfl ?hp1 ?hp2 _ [] xs A xs.length c (fun _ => True) (fun _ => False) rfl rfl ?h1 ?h2 (fun x cs h => U_M_of_K x cs h) (fun _ h => h.elim) (fun _ _ => trivial) ?h3 ?h4 ?h5 ?_
         (case ho => rfl); (case hw => rfl); (case hp1 => decide); (case hp2 => decide)
         (case h1 => first | exact R_empty (blk_newAt (by simp)) (by simp; try omega) | exact R_empty (blk_drew (blk_newAt (by simp))) (by simp; try omega) | exact R_empty (blk_alloc (blk_newAt (by simp)) _) (by simp; try omega) | exact R_empty (blk_drew (blk_alloc (blk_newAt (by simp)) _)) (by simp; try omega))
         (case h2 => exact Kd.C_below HR.out (below_step BX.out (Q5.b (w0 := wX) (g := gX) (x := x) (by assumption))))
         (case h3 => exact Q5.b (w0 := wX) (g := gX) (x := x) (by assumption))
         (case h4 => exact (Q5.b (w0 := wX) (g := gX) (x := x) (by assumption)).size)
         (case h5 => simp; omega)
         intro v11 w11 ho11 hb11 hg11 hat11
         have HS11 := Lib.hid (Q5.of XX.out hb11)
         have HO11 := Lib.hid ho11
         first | (refine gen_x13 (W := _) (w11 := w11) (g := wX.heap.size + 1) (x := x) ?hq hg11 ?hn (fun X13 => ?_); (case hq => first | exact blk_newAt (by simp) | exact blk_alloc (blk_newAt rfl) _); (case hn => intro e; have e2 : wX.heap.size + 1 = wX.heap.size := Option.some.inj e; omega)) | (refine gen_x13 (W := _) (w11 := w11) (g := wX.heap.size) (x := x) ?hqb hg11 ?hnb (fun X13 => ?_); (case hqb => first | exact blk_newAt (by simp) | exact blk_alloc (blk_newAt rfl) _); (case hnb => intro e; have e2 : wX.heap.size = wX.heap.size + 1 := Option.some.inj e; omega)) | skip
         clear ho11 hb11 hg11 hat11)
      | (refine Kd.R_append_rows_step k23 (w0 := wX) (Rr := k23.K _) wX.heap.size ?hwb (.tmp 11) (.tmp 13) 30 23 (.agg #[(.int .i64 0), (.int .i64 0), (.int .i64 0), (.int .i64 0), (.string ⟨#[]⟩)]) 48 ?hob Tryd.underlying30 info23 rfl ?hp1b ?hp2b _ xs [x] _ 1 1 (fun _ => True) (fun _ => False) rfl rfl ?h1b ?h2b (fun x cs h => U_M_of_K x cs h) (fun _ h => h.elim) (fun _ _ => trivial) ?h3b ?h4b ?h5b ?_
         (case hob => rfl); (case hwb => rfl); (case hp1b => decide); (case hp2b => decide)
         (case h1b => first | exact HO11.out | exact Kd.R_below HO11.out (below_alloc (Below.refl _ _) _))
         (case h2b => first | exact C_one (blk_newAt rfl) | exact C_one X13.out)
         (case h3b => exact Q5.b (w0 := wX) (g := gX) (x := x) (by assumption))
         (case h4b => exact (Q5.b (w0 := wX) (g := gX) (x := x) (by assumption)).size)
         (case h5b => omega)
         intro v14 w14 ho14 hb14 hg14 hat14
         have HS14 := Lib.hid (Q5.of XX.out hb14)
         have HO14 := Lib.hid ho14
         skip
         clear ho14 hb14 hg14 hat14))
  all_goals
    have B14 := Lib.hid (below_step BX.out HS14.out.b)
    obtain ⟨g, c3, e14, _, _, _⟩ := Kd.R_form HO14.out (by simp)
    rw [List.length_append, List.length_singleton] at e14
    subst e14
    obtain ⟨e15, hc3, hC⟩ := Kd.R_reads' HO14.out
    have HC := Lib.hid hC
    have HLN := Lib.hid e15
    clear hC e15
    have hl0 : (0 : Int) ≤ (xs.length : Int) := by omega
    by_cases hbig : max d 1 < ((xs.length + 1 : Nat) : Int)
    · have e1 : decide ((1 : Int) < (xs.length : Int) + 1) = true := by simp; omega
      have e2 : decide (d < (xs.length : Int) + 1) = true := by simp; omega
      obtain ⟨A', c', hsl, hcut, hcc⟩ := cut_at HC.out (by rw [← HLN.out]; exact hc3) 1 (by simp)
      rw [show ((1 : Nat) : Int) = 1 from rfl, ← HLN.out] at hsl
      have hst := cut_to' (A := some ⟨g, 0, none⟩) (n := xs.length + 1) (c := c3) (by omega) hc3
      have PU : Hid (puU xs x d = (xs ++ [x]).drop 1) := Lib.hid (by unfold puU; rw [if_pos hbig])
      have GU : Hid (goU xs x d = (xs ++ [x]).take 1) := Lib.hid (by unfold goU; rw [if_pos hbig])
      have HL1 : Hid (((xs ++ [x]).take 1).length = 1) := Lib.hid (by simp)
      have HCT := Lib.hid (Kd.C_take HC.out (m := 1) (by simp))
      generalize (xs ++ [x]).drop 1 = ys at PU hsl hcut hcc
      generalize (xs ++ [x]).take 1 = zs at GU HL1 HCT
      have HCUT := Lib.hid hcut
      have HCC := Lib.hid hcc
      clear hbig hcut hcc
      by_cases hd1 : d < 1
      all_goals
        go_upto_region 3 with (fail)
        go_region
        all_goals
          go_wp2
          go_ret2
          refine ⟨A', c', some ⟨g, 0, none⟩, c3, ?_, ?_, ?_, ?_, ?_, B14.out.drew⟩
          · rw [PU.out, GU.out, HL1.out]; rfl
          · rw [PU.out]; exact HCC.out
          · rw [GU.out, HL1.out]; omega
          · rw [PU.out]; exact Kd.C_below HCUT.out (Below.refl _ _).drew
          · rw [GU.out]; exact Kd.C_below HCT.out (Below.refl _ _).drew
    · have PU : Hid (puU xs x d = xs ++ [x]) := Lib.hid (by unfold puU; rw [if_neg hbig])
      have GU : Hid (goU xs x d = []) := Lib.hid (by unfold goU; rw [if_neg hbig])
      have HL1 : Hid ((xs ++ [x]).length = xs.length + 1) := Lib.hid (by simp)
      by_cases hd1 : d < 1
      · have e1 : decide ((1 : Int) < (xs.length : Int) + 1) = false := by simp; omega
        clear hbig
        go_wp2
        go_ret2
        refine ⟨some ⟨g, 0, none⟩, c3, none, 0, ?_, ?_, ?_, ?_, ?_, B14.out⟩
        · rw [PU.out, GU.out, HL1.out]; rfl
        · rw [PU.out, HL1.out]; omega
        · rw [GU.out]; exact Nat.le_refl _
        · rw [PU.out]; exact HC.out
        · rw [GU.out]; exact Kd.C_nil _ _
      · have e1 : decide (d < (xs.length : Int) + 1) = false := by simp; omega
        clear hbig
        go_wp2
        go_ret2
        refine ⟨some ⟨g, 0, none⟩, c3, none, 0, ?_, ?_, ?_, ?_, ?_, B14.out⟩
        · rw [PU.out, GU.out, HL1.out]; rfl
        · rw [PU.out, HL1.out]; omega
        · rw [GU.out]; exact Nat.le_refl _
        · rw [PU.out]; exact HC.out
        · rw [GU.out]; exact Kd.C_nil _ _
end Go.Proofs.YthkihkkmoknbjaaDoor.Undo
/- The walk of the law UndoPushes: it answers true. Conditions: the sizes that every row has; Go's two tables of utf8 as they are laid. -/
namespace Go.Proofs.YthkihkkmoknbjaaDoor.Undo
open Go.RowKit Go.Proofs.YthkihkkmoknbjaaDoorW.PrintWords Go.Proofs.YthkihkkmoknbjaaDoorW.PrintLast Go.Proofs.YthkihkkmoknbjaaDoorW.PrintMore Go.Proofs.YthkihkkmoknbjaaDoor.Rope Go.Proofs.YthkihkkmoknbjaaDoor.PUndoFinds
set_option linter.unusedVariables false
set_option linter.unusedSimpArgs false
attribute [local go_sem] max2_int min2_int max_two min_two
@[go_sem] theorem as_sp (s : ByteArray) (w : World) : (Instr.typeAssert (.iface 9 (.string s)) 20 27 true).run Tryd.prog w = .ok (.tuple #[.agg #[.int .i64 0, .int .i64 0, .int .i64 0], .bool false]) w := by kernel_rfl
@[go_sem] theorem as_st (s : ByteArray) (w : World) : (Instr.typeAssert (.iface 9 (.string s)) 20 60 true).run Tryd.prog w = .ok (.tuple #[.agg #[.int .i64 0, .int .i64 0, .int .i64 0, .pointer none], .bool false]) w := by kernel_rfl
/-- Mark finds none. -/
def RetNo (w : World) (e : Ending) (w' : World) : Prop := e = .returned (.tuple #[.int .i64 0, .bool false]) ∧ Below w.heap.size w w'
set_option maxRecDepth 1000000 in
theorem mark_str (s : ByteArray) (w : World) : Calls Tryd.prog 8 #[.iface 9 (.string s)] w (RetNo w) := by
  go_enter Tryd.func8, Tryd.ntmps8
  go_wp2
  go_ret2
  refine ⟨rfl, ?_⟩
  repeat (first | exact Below.refl _ _ | apply below_alloc | (refine below_set ?_ (by simp; try omega)))
set_option maxRecDepth 1000000 in
theorem mark_nil (w : World) : Calls Tryd.prog 8 #[.nilIface] w (RetNo w) := by
  go_enter Tryd.func8, Tryd.ntmps8
  go_wp2
  go_ret2
  refine ⟨rfl, ?_⟩
  repeat (first | exact Below.refl _ _ | apply below_alloc | (refine below_set ?_ (by simp; try omega)))
/-- Push of what is no thing. -/
def RetSame (v : Value) (w : World) (e : Ending) (w' : World) : Prop := e = .returned (.tuple #[v, .nilIface]) ∧ Below w.heap.size w w'
set_option maxRecDepth 1000000 in
set_option maxHeartbeats 1000000 in
theorem push_str (A : Option Addr) (n c : Nat) (s : ByteArray) (d : Int) (w : World) : Calls Tryd.prog 18 #[.agg #[.slice A n c], .iface 9 (.string s), .int .i64 d] w (RetSame (.agg #[.slice A n c]) w) := by
  go_enter Tryd.func18, Tryd.ntmps18
  go_wp2_with fail
  have B0 : Hid (Below w.heap.size w ((w.alloc (.cells #[.slice A n c] 38)).alloc (.cells #[.slice none 0 0] 38))) := Lib.hid (below_alloc (below_alloc (Below.refl _ _) _) _)
  have X0 : Hid (((w.alloc (.cells #[.slice A n c] 38)).alloc (.cells #[.slice none 0 0] 38)).heap[w.heap.size]? = some (.cells #[.slice A n c] 38 (0, 0))) := Lib.hid (blk_alloc (blk_new w _) _)
  have X1 : Hid (((w.alloc (.cells #[.slice A n c] 38)).alloc (.cells #[.slice none 0 0] 38)).heap[w.heap.size + 1]? = some (.cells #[.slice none 0 0] 38 (0, 0))) := Lib.hid (blk_newAt (by simp))
  (go_at_call 8; refine (mark_str s _).mono ?_; rintro e w1 ⟨rfl, hb1⟩)
  have B1 := Lib.hid (below_step B0.out hb1)
  have x0 := blk_below X0.out hb1
  have x1 := blk_below X1.out hb1
  have c0 : w1.cell? ⟨w.heap.size, 0, none⟩ = some (.slice A n c) := blk_cell x0 0
  have c1 : w1.cell? ⟨w.heap.size + 1, 0, none⟩ = some (.slice none 0 0) := blk_cell x1 0
  have f1 := blk_frozen x1 0
  have Y1 := Lib.hid x1
  clear x0 x1 hb1
  go_wp2
  refine bodyPost_ret (results_ct rfl _ _ (w.heap.size + 1) 38 #[.slice A n c] (0, 0) _ rfl (blk_put Y1.out 0 _ rfl) Tryd.underlying38 rfl (by kernel_rfl)) rfl ?_
  exact ⟨rfl, below_set B1.out (by omega)⟩
set_option maxRecDepth 1000000 in
set_option maxHeartbeats 1000000 in
theorem push_nil (A : Option Addr) (n c : Nat)  (d : Int) (w : World) : Calls Tryd.prog 18 #[.agg #[.slice A n c], .nilIface, .int .i64 d] w (RetSame (.agg #[.slice A n c]) w) := by
  go_enter Tryd.func18, Tryd.ntmps18
  go_wp2_with fail
  have B0 : Hid (Below w.heap.size w ((w.alloc (.cells #[.slice A n c] 38)).alloc (.cells #[.slice none 0 0] 38))) := Lib.hid (below_alloc (below_alloc (Below.refl _ _) _) _)
  have X0 : Hid (((w.alloc (.cells #[.slice A n c] 38)).alloc (.cells #[.slice none 0 0] 38)).heap[w.heap.size]? = some (.cells #[.slice A n c] 38 (0, 0))) := Lib.hid (blk_alloc (blk_new w _) _)
  have X1 : Hid (((w.alloc (.cells #[.slice A n c] 38)).alloc (.cells #[.slice none 0 0] 38)).heap[w.heap.size + 1]? = some (.cells #[.slice none 0 0] 38 (0, 0))) := Lib.hid (blk_newAt (by simp))
  (go_at_call 8; refine (mark_nil _).mono ?_; rintro e w1 ⟨rfl, hb1⟩)
  have B1 := Lib.hid (below_step B0.out hb1)
  have x0 := blk_below X0.out hb1
  have x1 := blk_below X1.out hb1
  have c0 : w1.cell? ⟨w.heap.size, 0, none⟩ = some (.slice A n c) := blk_cell x0 0
  have c1 : w1.cell? ⟨w.heap.size + 1, 0, none⟩ = some (.slice none 0 0) := blk_cell x1 0
  have f1 := blk_frozen x1 0
  have Y1 := Lib.hid x1
  clear x0 x1 hb1
  go_wp2
  refine bodyPost_ret (results_ct rfl _ _ (w.heap.size + 1) 38 #[.slice A n c] (0, 0) _ rfl (blk_put Y1.out 0 _ rfl) Tryd.underlying38 rfl (by kernel_rfl)) rfl ?_
  exact ⟨rfl, below_set B1.out (by omega)⟩
theorem push_goes {xs : List U} {x : U} {d : Int} : pushT (xs.map thOf) (thOf x) d = (puU xs x d).map thOf ∧ pushO (xs.map thOf) (thOf x) d = ((goU xs x d)[0]?).map thOf := by
  unfold pushT pushO puU goU
  rw [List.length_map]
  by_cases h : max d 1 < ((xs.length + 1 : Nat) : Int)
  · simp only [if_pos h]
    constructor
    · simp [List.map_drop]
    · cases xs with
      | nil => simp
      | cons y r => simp
  · simp only [if_neg h]
    constructor
    · simp
    · simp
theorem plainV_th {w : World} {v : Value} {t : Th} (h : ThR w v t) : Calls Tryd.prog 20 #[v] w (RetPl (plainTh t) true w) := by
  cases t with
  | put d m l => have e : v = _ := h; subst e; exact plainV_put d m l w
  | took d m l s => obtain ⟨p, hp, e⟩ := h; subst e; exact plainV_took d m l p s w hp
theorem plain_one {x : U} (h : okU x) : plainTh (thOf x) = x := by
  have := plain_of (xs := [x]) (fun y hy => by rw [List.mem_singleton.1 hy]; exact h)
  simpa using this
theorem plainV_ok {w : World} {v : Value} {x : U} (hok : okU x) (h : ThR w v (thOf x)) : Calls Tryd.prog 20 #[v] w (RetPl x true w) := by
  have := plainV_th h
  rw [plain_one hok] at this
  exact this
/-- The document's Push, where something falls out, and where not. -/
def RetPushG (ps gs : List U) (n : Nat) (w : World) (e : Ending) (w' : World) : Prop :=
  ∃ A1 c1 A2 c2, e = .returned (.tuple #[.slice A1 ps.length c1, .slice A2 n c2]) ∧ ps.length ≤ c1 ∧ Kd.C k23 w' A1 ps.length ps ∧ Kd.C k23 w' A2 n gs ∧ Below w.heap.size w w'
theorem refPush_go (A : Option Addr) (c : Nat) (xs : List U) (x : U) (d : Int) (ps gs : List U) (n : Nat) (w : World) (hr : Kd.C k23 w A xs.length xs) (hc : xs.length ≤ c) (hl : xs.length ≤ 1099511627776) (hp : puU xs x d = ps) (hg : goU xs x d = gs) (hn : gs.length = n) :
    Calls Tryd.prog 19 #[.slice A xs.length c, .agg (ldCells x), .int .i64 d] w (RetPushG ps gs n w) := by
  refine (refPush_calls A c xs x d w hr hc hl).mono ?_
  rintro e w' ⟨A1, c1, A2, c2, rfl, h1, h2, h3, h4, hb⟩
  rw [hp] at h1 h3 ⊢
  rw [hg] at h2 h4 ⊢
  rw [hn] at h4 ⊢
  exact ⟨A1, c1, A2, c2, rfl, h1, h3, h4, hb⟩
theorem gen_q {Γ : Prop} {W W' : World} {g : Nat} (h : W.heap[g]? = some (.cells #[.slice none 0 0] 38 (0, 0))) (hb : Below W.heap.size W W') (k : Hid (W'.heap[g]? = some (.cells #[.slice none 0 0] 38 (0, 0))) → Γ) : Γ := k (Lib.hid (blk_below h hb))
theorem pu_mem {xs : List U} {x y : U} {d : Int} (h : y ∈ puU xs x d) : y ∈ xs ++ [x] := by
  unfold puU at h
  split at h
  · exact List.mem_of_mem_drop h
  · exact h
theorem pu_ok {xs : List U} {x y : U} {d : Int} (h : ∀ y ∈ xs, okU y) (hx : okU x) (hy : y ∈ puU xs x d) : okU y := by
  rcases List.mem_append.1 (pu_mem hy) with h1 | h1
  · exact h y h1
  · rw [List.mem_singleton.1 h1]; exact hx
theorem pu_len (xs : List U) (x : U) (d : Int) : (puU xs x d).length ≤ xs.length + 1 := by
  unfold puU
  split <;> simp
/-- What holds behind the loading. -/
structure PuS (w : World) (g4 g9 : Nat) (x : U) (A : Option Addr) (n c : Nat) (ts : List Th) (W : World) : Prop where
  b : Below w.heap.size w W
  h4 : W.heap[g4]? = some (.cells (ldCells x) 23 (0, 0))
  h9 : W.heap[g9]? = some (.cells #[.slice A n c] 38 (0, 0))
  s : Stk W (.agg #[.slice A n c]) ts
theorem PuS.next {w W W' : World} {g4 g9 : Nat} {x : U} {A : Option Addr} {n c : Nat} {ts : List Th} (h : PuS w g4 g9 x A n c ts W) (hb : Below W.heap.size W W') : PuS w g4 g9 x A n c ts W' :=
  ⟨below_step h.b hb, blk_below h.h4 hb, blk_below h.h9 hb, h.s.below hb⟩
abbrev Q7 (V : World) (gX gS : Nat) (x : U) (A : Option Addr) (n c : Nat) (w' : World) : Prop :=
  w'.cell? ⟨gX, 0, none⟩ = some (.int .i64 x.f0) ∧ w'.cell? ⟨gX, 1, none⟩ = some (.int .i64 x.f1) ∧ w'.cell? ⟨gX, 2, none⟩ = some (.int .i64 x.f2) ∧ w'.cell? ⟨gX, 3, none⟩ = some (.int .i64 x.f3) ∧ w'.cell? ⟨gX, 4, none⟩ = some (.string x.f4) ∧ w'.cell? ⟨gS, 0, none⟩ = some (.slice A n c) ∧ Below V.heap.size V w'
theorem Q7.b {V W : World} {gX gS : Nat} {x : U} {A : Option Addr} {n c : Nat} (h : Q7 V gX gS x A n c W) : Below V.heap.size V W := h.2.2.2.2.2.2
theorem Q7.of {V W : World} {gX gS : Nat} {x : U} {A : Option Addr} {n c : Nat} (h4 : V.heap[gX]? = some (.cells (ldCells x) 23 (0, 0))) (h9 : V.heap[gS]? = some (.cells #[.slice A n c] 38 (0, 0))) (hb : Below V.heap.size V W) : Q7 V gX gS x A n c W :=
  have k4 := blk_below h4 hb
  have k9 := blk_below h9 hb
  ⟨blk_cell k4 0, blk_cell k4 1, blk_cell k4 2, blk_cell k4 3, blk_cell k4 4, blk_cell k9 0, hb⟩
theorem Q7.next {V W W' : World} {gX gS : Nat} {x : U} {A : Option Addr} {n c : Nat} (h : Q7 V gX gS x A n c W) (hb : Below W.heap.size W W') : Q7 V gX gS x A n c W' :=
  ⟨pw_cell_below hb h.1, pw_cell_below hb h.2.1, pw_cell_below hb h.2.2.1, pw_cell_below hb h.2.2.2.1, pw_cell_below hb h.2.2.2.2.1, pw_cell_below hb h.2.2.2.2.2.1, below_step h.2.2.2.2.2.2 hb⟩
/-- .. and behind the push. -/
structure PuT (w : World) (g4 g9 : Nat) (x : U) (A : Option Addr) (n c : Nat) (ts : List Th) (g11 : Nat) (A1 : Option Addr) (n1 c1 : Nat) (ts1 : List Th) (W : World) : Prop extends PuS w g4 g9 x A n c ts W where
  h11 : W.heap[g11]? = some (.cells #[.slice A1 n1 c1] 38 (0, 0))
  s11 : Stk W (.agg #[.slice A1 n1 c1]) ts1
theorem PuT.next {w W W' : World} {g4 g9 g11 : Nat} {x : U} {A A1 : Option Addr} {n c n1 c1 : Nat} {ts ts1 : List Th} (h : PuT w g4 g9 x A n c ts g11 A1 n1 c1 ts1 W) (hb : Below W.heap.size W W') : PuT w g4 g9 x A n c ts g11 A1 n1 c1 ts1 W' :=
  ⟨h.toPuS.next hb, blk_below h.h11 hb, h.s11.below hb⟩
set_option maxRecDepth 1000000 in
set_option maxHeartbeats 8000000 in
theorem undoPushes_walk (A : Option Addr) (c : Nat) (xs : List U) (x : U) (d : Int) (w : World) (hT : Tabs w) (hr : Kd.C k23 w A xs.length xs) (hc : xs.length ≤ c) (hn : xs.length ≤ 2932031007402) (hz : ∀ x ∈ xs, x.f4.size ≤ 140737488351232) (hzx : x.f4.size ≤ 140737488351232) :
    Calls Tryd.prog 6 #[.slice A xs.length c, .agg (ldCells x), .int .i64 d] w fun e w' => e = .returned (.bool true) ∧ Below w.heap.size w w' := by
  obtain ⟨bs, hbs, hsm⟩ := small_ev xs hn hz
  obtain ⟨k1, hk1⟩ := Go.Proofs.YthkihkkmoknbjaaDoorW.PrintWords.Ev.rounds hbs
  obtain ⟨k9, hk9⟩ := Go.Proofs.YthkihkkmoknbjaaDoorW.PrintWords.Ev.rounds (refRightU_ev [x] (by simp) (fun y hy => by rw [List.mem_singleton.1 hy]; omega))
  have HT := Lib.hid hT
  have HR := Lib.hid hr
  have K1 := Lib.hid hk1
  have K9 := Lib.hid hk9
  have SM := Lib.hid hsm
  clear hT hr hz hbs hk1 hsm hk9
  go_enter Tryd.func6, Tryd.ntmps6
  go_wp2_with (first | ((with_reducible refine gate_dst (N := 4) rfl ?_); refine box_event ?hg (N := 4) ?hd (cs := ldCells x) (t := 23) ?hr ?_; (case hd => rfl); (case hg => rfl); (case hr => first | (go_simp; done) | (go_simp; rfl)); intro gX hgX wX hxX hbX; have BX := Lib.hid hbX; have XX := Lib.hid hxX; clear hgX hxX hbX))
  (go_at_call 18; refine (push_none none 0 0 [] [.put 0 3 0] (27, .agg #[.int .i64 0, .int .i64 3, .int .i64 0]) (.put 0 3 0) 2 _ (stk_nil _) (put_th _) (by decide) (push0 _).1 (push0 _).2).mono ?_; rintro e w1 ⟨A1, c1, rfl, hs1, hb1⟩)
  have S1 := Lib.hid hs1
  have B1 := Lib.hid (below_step BX.out hb1)
  have X1 := Lib.hid (blk_below XX.out hb1)
  clear hs1 hb1 BX XX
  go_upto_region 2 with (first | ((with_reducible refine gate_dst (N := 7) rfl ?_); refine box_event ?hg (N := 7) ?hd (cs := #[.slice none 0 0]) (t := 38) ?hr ?_; (case hd => rfl); (case hg => rfl); (case hr => first | (go_simp; done) | (go_simp; rfl)); intro gA hgA wA hxA hbA; have GA := Lib.hid (show w.heap.size ≤ gA by rw [hgA]; exact B1.out.size); have GB := Lib.hid (show w1.heap.size ≤ gA by rw [hgA]; exact Nat.le_refl _); have BA := Lib.hid hbA; have XA := Lib.hid hxA; have y0 := (blk_cell hxA 0).trans rfl; have z0 := blk_frozen hxA 0; clear hgA hxA hbA))
  refine gen2 (φ := fun W => Code.wp _ _ _ _ W) (P := fun W => Below w.heap.size w W ∧ W.cell? ⟨gA, 0, none⟩ = some (.slice A1 1 c1) ∧ Hid (Stk W (.agg #[.slice A1 1 c1]) [.put 0 3 0]) ∧ Hid (W.heap[gX]? = some (.cells (ldCells x) 23 (0, 0)))) ⟨below_set (below_step B1.out BA.out) GA.out, (blk_cell (blk_set XA.out 0 (.slice A1 1 c1)) 0).trans rfl, Lib.hid (S1.out.below (below_set BA.out GB.out)), Lib.hid (blk_below X1.out (below_set BA.out GB.out))⟩ ?_
  rintro W ⟨hbW, y1, SW, XW⟩
  have BW := Lib.hid hbW
  clear hbW y0 z0 XA BA GA GB S1 B1 X1
  go_wp2_with fail
  (go_at_call 15; refine (plain_calls (.agg #[.slice A1 1 c1]) [.put 0 3 0] _ SW.out (by decide)).mono ?_; rintro e w2 ⟨v2, rfl, hr2, hb2⟩)
  have B2 := Lib.hid (below_step BW.out hb2)
  have X2 := Lib.hid (blk_below XW.out hb2)
  obtain ⟨A2, c2, e2⟩ := Kd.R_slice hr2
  have e3 : v2 = .slice A2 1 c2 := e2
  subst e3
  clear hr2 hb2 SW y1 BW e2 XW
  go_wp2_with fail
  (go_at_call 16; refine (chancellaw07_small.calls k1 A c xs bs _ (Kd.C_below HR.out B2.out) hc K1.out).mono ?_; rintro e w3 ⟨rfl, hb3⟩)
  have B3 := Lib.hid (below_step B2.out hb3)
  have X3 := Lib.hid (blk_below X2.out hb3)
  clear hb3 B2 X2
  cases bs with
  | false =>
    go_wp2
    go_ret
    exact ⟨rfl, B3.out⟩
  | true =>
    obtain ⟨hl60, hz2⟩ := SM.out rfl
    have hn2 : xs.length ≤ 1099511627776 := by omega
    have hz3 := Lib.hid (show ∀ x ∈ xs, x.f4.size ≤ 1099511627776 from fun x hx => by have := hz2 x hx; omega)
    obtain ⟨k2, hk2⟩ := Go.Proofs.YthkihkkmoknbjaaDoorW.PrintWords.Ev.rounds (refRightU_ev xs hn (fun x hx => by have := hz3.out x hx; omega))
    have K2 := Lib.hid hk2
    clear hz2 hk2
    cases hb : okB xs with
    | false =>
      rw [hb] at K2
      clear hb
      go_wp2_with fail
      (go_at_call 10; refine (chancelref07_Right.calls k2 A c xs false _ (Kd.C_below HR.out B3.out) hc K2.out).mono ?_; rintro e w5 ⟨rfl, hb5⟩)
      have B5 := Lib.hid (below_step B3.out hb5)
      clear hb5
      go_wp2
      go_ret
      exact ⟨rfl, B5.out⟩
    | true =>
      rw [hb] at K2
      have OK := Lib.hid (okB_true.1 hb)
      clear hb
      go_wp2_with fail
      (go_at_call 10; refine (chancelref07_Right.calls k2 A c xs true _ (Kd.C_below HR.out B3.out) hc K2.out).mono ?_; rintro e w5 ⟨rfl, hb5⟩)
      have B5 := Lib.hid (below_step B3.out hb5)
      have h5 := blk_below X3.out hb5
      have X5 := Lib.hid h5
      clear hb5 B3 X3
      have a0 : w5.cell? ⟨gX, 0, none⟩ = some (.int .i64 x.f0) := blk_cell h5 0
      have a1 : w5.cell? ⟨gX, 1, none⟩ = some (.int .i64 x.f1) := blk_cell h5 1
      have a2 : w5.cell? ⟨gX, 2, none⟩ = some (.int .i64 x.f2) := blk_cell h5 2
      have a3 : w5.cell? ⟨gX, 3, none⟩ = some (.int .i64 x.f3) := blk_cell h5 3
      have a4 : w5.cell? ⟨gX, 4, none⟩ = some (.string x.f4) := blk_cell h5 4
      clear h5
      cases hbx : okB [x] with
      | false =>
        rw [hbx] at K9
        clear hbx
        go_wp2_with fail
        (go_at_call 10; refine (chancelref07_Right.calls k9 (some ⟨w5.heap.size, 0, none⟩) 1 [x] false _ (C_one (blk_newAt rfl)) (Nat.le_refl _) K9.out).mono ?_; rintro e w6 ⟨rfl, hb6⟩)
        have B6 := Lib.hid (below_step (below_alloc B5.out _) hb6)
        clear hb6
        go_wp2
        go_ret
        exact ⟨rfl, B6.out⟩
      | true =>
        rw [hbx] at K9
        have OKX : Hid (okU x) := Lib.hid (okB_true.1 hbx x (List.mem_singleton.2 rfl))
        clear hbx
        go_wp2_with fail
        (go_at_call 10; refine (chancelref07_Right.calls k9 (some ⟨w5.heap.size, 0, none⟩) 1 [x] true _ (C_one (blk_newAt rfl)) (Nat.le_refl _) K9.out).mono ?_; rintro e w6 ⟨rfl, hb6⟩)
        have B6 := Lib.hid (below_step (below_alloc B5.out _) hb6)
        have h6 := blk_below (blk_alloc X5.out _) hb6
        have X6 := Lib.hid h6
        replace a4 : w6.cell? ⟨gX, 4, none⟩ = some (.string x.f4) := blk_cell h6 4
        clear hb6 B5 X5 h6 a0 a1 a2 a3
        by_cases hx2 : (2000 : Int) < (x.f4.size : Int)
        · have dx : decide ((2000 : Int) < (x.f4.size : Int)) = true := by simpa using hx2
          clear hx2
          go_wp2
          go_ret
          exact ⟨rfl, B6.out⟩
        · have dx : decide ((2000 : Int) < (x.f4.size : Int)) = false := by simpa using hx2
          have hzx2 : x.f4.size ≤ 1099511627776 := by omega
          clear hx2
          go_wp2_with fail
          (go_at_call 14; refine (load_good A c xs _ (HT.out.below B6.out) (Kd.C_below HR.out B6.out) hz3.out hn2 OK.out).mono ?_; rintro e w7 ⟨A7, c7, rfl, hs7, hb7⟩)
          have S7 := Lib.hid hs7
          have B7 := Lib.hid (below_step B6.out hb7)
          have X7 := Lib.hid (blk_below X6.out hb7)
          clear hs7 hb7 B6 X6 a4
          go_upto_region 7 with (first | ((with_reducible refine gate_dst (N := 9) rfl ?_); refine box_event ?hg (N := 9) ?hd (cs := #[.slice none 0 0]) (t := 38) ?hr ?_; (case hd => rfl); (case hg => rfl); (case hr => first | (go_simp; done) | (go_simp; rfl)); intro gS hgS wS hxS hbS; have GA := Lib.hid (show w.heap.size ≤ gS by rw [hgS]; exact B7.out.size); have GB := Lib.hid (show w7.heap.size ≤ gS by rw [hgS]; exact Nat.le_refl _); have BA := Lib.hid hbS; have XA := Lib.hid hxS; have y0 := (blk_cell hxS 0).trans rfl; have z0 := blk_frozen hxS 0; clear hgS hxS hbS))
          refine gen2 (φ := fun W => Code.wp _ _ _ _ W) (P := fun W => PuS w gX gS x A7 xs.length c7 (xs.map thOf) W) ⟨below_set (below_step B7.out BA.out) GA.out, blk_below X7.out (below_set BA.out GB.out), blk_put XA.out 0 _ rfl, S7.out.below (below_set BA.out GB.out)⟩ ?_
          rintro V hV
          have PV := Lib.hid hV
          clear hV y0 z0 XA BA GA GB S7 B7 X7
          have LL : Hid ((xs.map thOf).length ≤ 1099511627776) := Lib.hid (by simpa using hn2)
          by_cases hbig : max d 1 < ((xs.length + 1 : Nat) : Int)
          · obtain ⟨ps, hps⟩ : ∃ ps, ps = puU xs x d := ⟨_, rfl⟩
            obtain ⟨ts1, hts1⟩ : ∃ ts1, ts1 = ps.map thOf := ⟨_, rfl⟩
            have PT : Hid (pushT (xs.map thOf) (thOf x) d = ts1) := Lib.hid (by rw [(push_goes (xs := xs) (x := x) (d := d)).1, hts1, hps])
            have POK : Hid (∀ y ∈ ps, okU y) := Lib.hid (fun y hy => by rw [hps] at hy; exact pu_ok OK.out OKX.out hy)
            have PPL : Hid (ts1.map plainTh = ps) := Lib.hid (by rw [hts1]; exact plain_of POK.out)
            have PLL : Hid (ts1.length = ps.length) := Lib.hid (by rw [hts1, List.length_map])
            have PLN : ps.length ≤ 1099511627776 := by rw [hps]; have := pu_len xs x d; omega
            have HPS := Lib.hid hps.symm
            clear hps hts1
            have PO := Lib.hid (push_goes (xs := xs) (x := x) (d := d)).2
            have GO : Hid (goU xs x d = (xs ++ [x]).take 1) := Lib.hid (by unfold goU; rw [if_pos hbig])
            obtain ⟨x0, hx0⟩ : ∃ x0, (xs ++ [x])[0]? = some x0 := ⟨_, List.getElem?_eq_getElem (by simp)⟩
            have GO0 : Hid (goU xs x d = [x0]) := Lib.hid (by rw [GO.out, List.take_add_one, hx0]; rfl)
            have PO1 : Hid (pushO (xs.map thOf) (thOf x) d = some (thOf x0)) := Lib.hid (by rw [PO.out, GO0.out]; rfl)
            have OX0 : Hid (okU x0) := Lib.hid (by
              have hm := List.mem_of_getElem? hx0
              rcases List.mem_append.1 hm with h1 | h1
              · exact OK.out x0 h1
              · rw [List.mem_singleton.1 h1]; exact OKX.out)
            clear hx0
            have l4 := PV.out.h4
            have l9 := PV.out.h9
            have a0 : V.cell? ⟨gX, 0, none⟩ = some (.int .i64 x.f0) := blk_cell l4 0
            have a1 : V.cell? ⟨gX, 1, none⟩ = some (.int .i64 x.f1) := blk_cell l4 1
            have a2 : V.cell? ⟨gX, 2, none⟩ = some (.int .i64 x.f2) := blk_cell l4 2
            have a3 : V.cell? ⟨gX, 3, none⟩ = some (.int .i64 x.f3) := blk_cell l4 3
            have a4 : V.cell? ⟨gX, 4, none⟩ = some (.string x.f4) := blk_cell l4 4
            have s0 : V.cell? ⟨gS, 0, none⟩ = some (.slice A7 xs.length c7) := blk_cell l9 0
            clear l4 l9 hbig
            have QS := Lib.hid (Q7.of PV.out.h4 PV.out.h9 (Below.refl _ _))
            clear a0 a1 a2 a3 a4 s0
            go_region_held3 (fun w' => Q7 V gX gS x A7 xs.length c7 w')
              (first | (with_reducible assumption) | (with_reducible exact HS8.out) | (with_reducible exact HS9.out) | (with_reducible exact Q7.of PV.out.h4 PV.out.h9 (below_set (Q7.b HS9.out) (Nat.le_refl _))) | (with_reducible exact Q7.of PV.out.h4 PV.out.h9 (below_set (Q7.b HS9.out) (Q7.b HS8.out).size)) | (with_reducible exact Q7.of PV.out.h4 PV.out.h9 (below_set (below_alloc (Q7.b HS9.out) _) (Q7.b HS9.out).size)) | (with_reducible exact Q7.next HS8.out (below_alloc (Below.refl _ _) _)) | (with_reducible exact Q7.next HS9.out (below_alloc (Below.refl _ _) _)) | exact QS.out.next (by (with_reducible repeat (first | exact Below.refl _ _ | apply pw_below_drewN | apply Below.drew | apply below_alloc))))
              (first
              | (go_at_call 11; (refine (thing_calls x _ ?ca OKX.out hzx2).mono ?_); (case ca => exact HT.out.below (below_step PV.out.b (Q7.b (V := V) (gX := gX) (gS := gS) (x := x) (A := A7) (n := xs.length) (c := c7) (by assumption)))); rintro e w8 ⟨y, rfl, hy, hb8⟩; have HY := Lib.hid hy; have HS8 := Lib.hid (Q7.next (V := V) (gX := gX) (gS := gS) (x := x) (A := A7) (n := xs.length) (c := c7) (by assumption) hb8); (first | (refine gen_q (g := V.heap.size) ?hq1 hb8 (fun Q8 => ?_); (case hq1 => first | exact blk_newAt rfl | exact blk_drew (blk_newAt rfl))) | skip); clear hy hb8)
              | (go_at_call 18; (refine (push_some A7 xs.length c7 (xs.map thOf) ts1 y (thOf x) (thOf x0) d _ ?cb ?cc LL.out PT.out PO1.out).mono ?_); (case cb => exact PV.out.s.below (Q7.b (V := V) (gX := gX) (gS := gS) (x := x) (A := A7) (n := xs.length) (c := c7) (by assumption))); (case cc => first | exact HY.out | exact HY.out.below (by repeat (first | exact Below.refl _ _ | apply Below.drew | apply below_alloc))); rintro e w9 ⟨A9, c9, y9, rfl, hs9, hy9, hb9⟩; have HS9 := Lib.hid (Q7.next (V := V) (gX := gX) (gS := gS) (x := x) (A := A7) (n := xs.length) (c := c7) (by assumption) hb9); (first | (refine gen_q (g := V.heap.size) Q8.out hb9 (fun Q9 => ?_); have q0 := (blk_cell Q9.out 0).trans rfl; have q1 := blk_frozen Q9.out 0) | (refine gen_q (g := w8.heap.size) ?hq2 hb9 (fun Q9 => ?_); (case hq2 => first | exact blk_newAt rfl | exact blk_drew (blk_newAt rfl)); have q0 := (blk_cell Q9.out 0).trans rfl; have q1 := blk_frozen Q9.out 0) | skip); have S9 := Lib.hid hs9; have Y9 := Lib.hid hy9; clear hy9; have B9 := Lib.hid (Q7.b HS9.out); clear hs9 hb9))
            all_goals
              go_upto_region 8 with (fail)
              first | (refine gen2 (φ := fun W => Code.wp _ _ _ _ W) (P := fun W => PuT w gX gS x A7 xs.length c7 (xs.map thOf) (V.heap.size) A9 ts1.length c9 ts1 W ∧ ThR W (encI y9) (thOf x0)) ⟨⟨PV.out.next (below_set B9.out (Nat.le_refl _)), blk_put Q9.out 0 _ rfl, S9.out.move (set_type Q9.out (by decide) _ _) (set_type Q9.out (by decide) _ _)⟩, Y9.out.move (set_type Q9.out (by decide) _ _)⟩ ?_; generalize V.heap.size = g11) | (refine gen2 (φ := fun W => Code.wp _ _ _ _ W) (P := fun W => PuT w gX gS x A7 xs.length c7 (xs.map thOf) (w8.heap.size) A9 ts1.length c9 ts1 W ∧ ThR W (encI y9) (thOf x0)) ⟨⟨PV.out.next (below_set B9.out ((Q7.b HS8.out).size)), blk_put Q9.out 0 _ rfl, S9.out.move (set_type Q9.out (by decide) _ _) (set_type Q9.out (by decide) _ _)⟩, Y9.out.move (set_type Q9.out (by decide) _ _)⟩ ?_; generalize w8.heap.size = g11) | (refine gen2 (φ := fun W => Code.wp _ _ _ _ W) (P := fun W => PuT w gX gS x A7 xs.length c7 (xs.map thOf) (w9.heap.size) A9 ts1.length c9 ts1 W ∧ ThR W (encI y9) (thOf x0)) ⟨⟨PV.out.next (below_alloc B9.out _), blk_newAt rfl, S9.out.below (below_alloc (Below.refl _ _) _)⟩, Y9.out.below (below_alloc (Below.refl _ _) _)⟩ ?_; generalize w9.heap.size = g11)
              rintro U0 hU0
              have PU := Lib.hid hU0.1
              have YU := Lib.hid hU0.2
              have l4 := hU0.1.h4
              clear hU0 S9 B9 HY PV QS HS8 HS9
              have a0 : U0.cell? ⟨gX, 0, none⟩ = some (.int .i64 x.f0) := blk_cell l4 0
              have a1 : U0.cell? ⟨gX, 1, none⟩ = some (.int .i64 x.f1) := blk_cell l4 1
              have a2 : U0.cell? ⟨gX, 2, none⟩ = some (.int .i64 x.f2) := blk_cell l4 2
              have a3 : U0.cell? ⟨gX, 3, none⟩ = some (.int .i64 x.f3) := blk_cell l4 3
              have a4 : U0.cell? ⟨gX, 4, none⟩ = some (.string x.f4) := blk_cell l4 4
              clear l4
              go_wp2_with fail
              (go_at_call 19; refine (refPush_go A c xs x d ps [x0] 1 _ (Kd.C_below HR.out PU.out.b) hc hn2 HPS.out GO0.out rfl).mono ?_; rintro e w10 ⟨Ap, cp, Ag, cg, rfl, hcp, hCp, hCg, hb10⟩)
              have P10 := Lib.hid (PU.out.next hb10)
              have CP := Lib.hid hCp
              have HCP := Lib.hid hcp
              have CG := Lib.hid hCg
              have Y10 := Lib.hid (YU.out.below hb10)
              clear hb10 hCp hCg hcp a0 a1 a2 a3 a4 PU
              go_wp2_with fail
              (go_at_call 20; refine (plainV_ok OX0.out Y10.out).mono ?_; rintro e w11 ⟨rfl, hb11⟩)
              have P11 := Lib.hid (P10.out.next hb11)
              have CP11 := Lib.hid (Kd.C_below CP.out hb11)
              have CG11 := Lib.hid (Kd.C_below CG.out hb11)
              clear hb11 P10 CP CG
              go_upto_region 10 with (first | ((with_reducible refine gate_dst (N := 15) rfl ?_); refine box_event ?hg (N := 15) ?hd (cs := #[.int .i64 0, .int .i64 0, .int .i64 0, .int .i64 0, .string ByteArray.empty]) (t := 23) ?hr ?_; (case hd => rfl); (case hg => rfl); (case hr => first | (go_simp; done) | (go_simp; rfl)); intro gP hgP wP hxP hbP; have GP := Lib.hid (show w11.heap.size ≤ gP by rw [hgP]; exact Nat.le_refl _); have BP := Lib.hid hbP; have XP := Lib.hid hxP; have y0 := (blk_cell hxP 0).trans rfl; have y1 := (blk_cell hxP 1).trans rfl; have y2 := (blk_cell hxP 2).trans rfl; have y3 := (blk_cell hxP 3).trans rfl; have y4 := (blk_cell hxP 4).trans rfl; have z0 := blk_frozen hxP 0; have z1 := blk_frozen hxP 1; have z2 := blk_frozen hxP 2; have z3 := blk_frozen hxP 3; have z4 := blk_frozen hxP 4; clear hgP hxP hbP))
              refine gen2 (φ := fun W => Code.wp _ _ _ _ W) (P := fun W => Below w11.heap.size w11 W ∧ W.heap[gP]? = some (.cells (ldCells x0) 23 (0, 0))) ⟨below_set (below_set (below_set (below_set (below_set BP.out GP.out) GP.out) GP.out) GP.out) GP.out, by simpa using blk_set (blk_set (blk_set (blk_set (blk_set XP.out 0 (.int .i64 x0.f0)) 1 (.int .i64 x0.f1)) 2 (.int .i64 x0.f2)) 3 (.int .i64 x0.f3)) 4 (.string x0.f4)⟩ ?_
              rintro U1 ⟨hb12, hxP⟩
              clear y0 y1 y2 y3 y4 z0 z1 z2 z3 z4 XP BP GP
              have P12 := Lib.hid (P11.out.next hb12)
              have CP12 := Lib.hid (Kd.C_below CP11.out hb12)
              have CG12 := Lib.hid (Kd.C_below CG11.out hb12)
              have a0 := (blk_cell hxP 0).trans rfl
              have a1 := (blk_cell hxP 1).trans rfl
              have a2 := (blk_cell hxP 2).trans rfl
              have a3 := (blk_cell hxP 3).trans rfl
              have a4 := (blk_cell hxP 4).trans rfl
              obtain ⟨ag, ea, hx0, hx1, hx2, hx3, hx4⟩ := at_U CG12.out (j := 0) (x := x0) rfl (by decide)
              subst ea
              rw [Nat.zero_mul, show ag.add 0 = ag from rfl] at hx0 hx1 hx2 hx3 hx4
              clear hb12 hxP P11 CP11 CG11
              have c9_ : U1.cell? ⟨gS, 0, none⟩ = some (.slice A7 xs.length c7) := blk_cell P12.out.h9 0
              go_region
              all_goals
                clear a0 a1 a2 a3 a4 hx0 hx1 hx2 hx3 hx4
                go_wp2_with fail
                (go_at_call 18; refine (push_str A7 xs.length c7 _ d _).mono ?_; rintro e w13 ⟨rfl, hb13⟩)
                have HB13 := Lib.hid (show Below U1.heap.size U1 w13 from below_step (Below.refl _ _).drew hb13)
                have P13 := Lib.hid (P12.out.next HB13.out)
                have CP13 := Lib.hid (Kd.C_below CP12.out HB13.out)
                clear hb13 HB13 P12 CP12 CG12 c9_
                go_upto_region 13 with (first | ((with_reducible refine gate_dst (N := 17) rfl ?_); refine box_event ?hg (N := 17) ?hd (cs := #[.slice none 0 0]) (t := 38) ?hr ?_; (case hd => rfl); (case hg => rfl); (case hr => first | (go_simp; done) | (go_simp; rfl)); intro gQ hgQ wQ hxQ hbQ; have GQ := Lib.hid (show w13.heap.size ≤ gQ by rw [hgQ]; exact Nat.le_refl _); have BQ := Lib.hid hbQ; have XQ := Lib.hid hxQ; have y0 := (blk_cell hxQ 0).trans rfl; have z0 := blk_frozen hxQ 0; clear hgQ hxQ hbQ))
                refine gen2 (φ := fun W => Code.wp _ _ _ _ W) (P := fun W => Below w13.heap.size w13 W ∧ W.heap[gQ]? = some (.cells #[.slice A7 xs.length c7] 38 (0, 0))) ⟨below_set BQ.out GQ.out, blk_put XQ.out 0 _ rfl⟩ ?_
                clear y0 z0 XQ BQ GQ
                rintro U2 ⟨hb14, hxQ⟩
                have P14 := Lib.hid (P13.out.next hb14)
                have CP14 := Lib.hid (Kd.C_below CP13.out hb14)
                have XQ := Lib.hid hxQ
                clear hb14 hxQ P13 CP13
                have c9_ : U2.cell? ⟨gS, 0, none⟩ = some (.slice A7 xs.length c7) := blk_cell P14.out.h9 0
                go_wp2_with fail
                (go_at_call 18; refine (push_nil A7 xs.length c7 d _).mono ?_; rintro e w15 ⟨rfl, hb15⟩)
                have P15 := Lib.hid (P14.out.next hb15)
                have CP15 := Lib.hid (Kd.C_below CP14.out hb15)
                have XQ15 := Lib.hid (blk_below XQ.out hb15)
                clear hb15 P14 CP14 XQ c9_
                go_upto_region 14 with (first | ((with_reducible refine gate_dst (N := 19) rfl ?_); refine box_event ?hg (N := 19) ?hd (cs := #[.slice none 0 0]) (t := 38) ?hr ?_; (case hd => rfl); (case hg => rfl); (case hr => first | (go_simp; done) | (go_simp; rfl)); intro gR hgR wR hxR hbR; have GR := Lib.hid (show w15.heap.size ≤ gR by rw [hgR]; exact Nat.le_refl _); have BR := Lib.hid hbR; have XR := Lib.hid hxR; have y0 := (blk_cell hxR 0).trans rfl; have z0 := blk_frozen hxR 0; clear hgR hxR hbR))
                refine gen2 (φ := fun W => Code.wp _ _ _ _ W) (P := fun W => Below w15.heap.size w15 W ∧ W.heap[gR]? = some (.cells #[.slice A7 xs.length c7] 38 (0, 0))) ⟨below_set BR.out GR.out, blk_put XR.out 0 _ rfl⟩ ?_
                clear y0 z0 XR BR GR
                rintro U3 ⟨hb16, hxR⟩
                have P16 := Lib.hid (P15.out.next hb16)
                have CP16 := Lib.hid (Kd.C_below CP15.out hb16)
                have XQ := Lib.hid (blk_below XQ15.out hb16)
                have XR := Lib.hid hxR
                clear hb16 hxR P15 CP15 XQ15
                have OKP := Lib.hid (plain_of OK.out)
                obtain ⟨kp, hkp⟩ := Go.Proofs.YthkihkkmoknbjaaDoorW.PrintWords.Ev.rounds (same_ev ps (by omega))
                obtain ⟨kl, hkl⟩ := Go.Proofs.YthkihkkmoknbjaaDoorW.PrintWords.Ev.rounds (same_ev xs hn)
                have KP := Lib.hid hkp
                have KL := Lib.hid hkl
                clear hkp hkl
                have c11_ : U3.cell? ⟨g11, 0, none⟩ = some (.slice A9 ts1.length c9) := blk_cell P16.out.h11 0
                go_wp2_with fail
                (go_at_call 15; refine (plain_calls (.agg #[.slice A9 ts1.length c9]) ts1 _ P16.out.s11 (by rw [PLL.out]; omega)).mono ?_; rintro e w17 ⟨v17, rfl, hr17, hb17⟩)
                rw [PPL.out] at hr17
                obtain ⟨A17, c17, e17, hc17, hC17⟩ := Kd.R_reads hr17
                subst e17
                have C17 := Lib.hid hC17
                have HC17 := Lib.hid hc17
                have P17 := Lib.hid (P16.out.next hb17)
                have CP17 := Lib.hid (Kd.C_below CP16.out hb17)
                have XQ17 := Lib.hid (blk_below XQ.out hb17)
                have XR17 := Lib.hid (blk_below XR.out hb17)
                clear hr17 hb17 hC17 hc17 P16 CP16 XQ XR c11_
                go_wp2_with fail
                (go_at_call 17; refine (chancelref07_Same.calls kp A17 c17 ps Ap cp ps true _ C17.out HC17.out CP17.out HCP.out KP.out).mono ?_; rintro e w18 ⟨rfl, hd18⟩)
                have hb18 := below_drawn hd18
                have P18 := Lib.hid (P17.out.next hb18)
                have CP18 := Lib.hid (Kd.C_below CP17.out hb18)
                have XQ18 := Lib.hid (blk_below XQ17.out hb18)
                have XR18 := Lib.hid (blk_below XR17.out hb18)
                clear hd18 hb18 P17 CP17 XQ17 XR17 C17 HC17
                have c9_ : w18.cell? ⟨gS, 0, none⟩ = some (.slice A7 xs.length c7) := blk_cell P18.out.h9 0
                go_wp2_with fail
                (go_at_call 15; refine (plain_calls (.agg #[.slice A7 xs.length c7]) (xs.map thOf) _ P18.out.s LL.out).mono ?_; rintro e w19 ⟨v19, rfl, hr19, hb19⟩)
                rw [OKP.out] at hr19
                obtain ⟨A19, c19, e19, hc19, hC19⟩ := Kd.R_reads hr19
                subst e19
                have C19 := Lib.hid hC19
                have HC19 := Lib.hid hc19
                have P19 := Lib.hid (P18.out.next hb19)
                have CP19 := Lib.hid (Kd.C_below CP18.out hb19)
                have XQ19 := Lib.hid (blk_below XQ18.out hb19)
                have XR19 := Lib.hid (blk_below XR18.out hb19)
                clear hr19 hb19 hC19 hc19 P18 CP18 XQ18 XR18 c9_
                go_wp2_with fail
                (go_at_call 17; refine (chancelref07_Same.calls kl A19 c19 xs A c xs true _ C19.out HC19.out (Kd.C_below HR.out P19.out.b) hc KL.out).mono ?_; rintro e w20 ⟨rfl, hd20⟩)
                have hb20 := below_drawn hd20
                have P20 := Lib.hid (P19.out.next hb20)
                have CP20 := Lib.hid (Kd.C_below CP19.out hb20)
                have XQ20 := Lib.hid (blk_below XQ19.out hb20)
                have XR20 := Lib.hid (blk_below XR19.out hb20)
                clear hd20 hb20 P19 CP19 XQ19 XR19 C19 HC19
                have XQ := XQ20
                have XR := XR20
                have cQ_ : w20.cell? ⟨gQ, 0, none⟩ = some (.slice A7 xs.length c7) := blk_cell XQ.out 0
                go_wp2_with fail
                (go_at_call 15; refine (plain_calls (.agg #[.slice A7 xs.length c7]) (xs.map thOf) _ P20.out.s LL.out).mono ?_; rintro e w21 ⟨v21, rfl, hr21, hb21⟩)
                rw [OKP.out] at hr21
                obtain ⟨A21, c21, e21, hc21, hC21⟩ := Kd.R_reads hr21
                subst e21
                have C21 := Lib.hid hC21
                have HC21 := Lib.hid hc21
                have P21 := Lib.hid (P20.out.next hb21)
                have CP21 := Lib.hid (Kd.C_below CP20.out hb21)
                have XQ21 := Lib.hid (blk_below XQ20.out hb21)
                have XR21 := Lib.hid (blk_below XR20.out hb21)
                clear hr21 hb21 hC21 hc21 P20 CP20 XQ20 XR20 cQ_
                go_wp2_with fail
                (go_at_call 17; refine (chancelref07_Same.calls kl A21 c21 xs A c xs true _ C21.out HC21.out (Kd.C_below HR.out P21.out.b) hc KL.out).mono ?_; rintro e w22 ⟨rfl, hd22⟩)
                have hb22 := below_drawn hd22
                have P22 := Lib.hid (P21.out.next hb22)
                have CP22 := Lib.hid (Kd.C_below CP21.out hb22)
                have XQ22 := Lib.hid (blk_below XQ21.out hb22)
                have XR22 := Lib.hid (blk_below XR21.out hb22)
                clear hd22 hb22 P21 CP21 XQ21 XR21 C21 HC21
                have XQ := XQ22
                have XR := XR22
                have cR_ : w22.cell? ⟨gR, 0, none⟩ = some (.slice A7 xs.length c7) := blk_cell XR.out 0
                go_wp2_with fail
                (go_at_call 15; refine (plain_calls (.agg #[.slice A7 xs.length c7]) (xs.map thOf) _ P22.out.s LL.out).mono ?_; rintro e w23 ⟨v23, rfl, hr23, hb23⟩)
                rw [OKP.out] at hr23
                obtain ⟨A23, c23, e23, hc23, hC23⟩ := Kd.R_reads hr23
                subst e23
                have C23 := Lib.hid hC23
                have HC23 := Lib.hid hc23
                have P23 := Lib.hid (P22.out.next hb23)
                have CP23 := Lib.hid (Kd.C_below CP22.out hb23)
                have XQ23 := Lib.hid (blk_below XQ22.out hb23)
                have XR23 := Lib.hid (blk_below XR22.out hb23)
                clear hr23 hb23 hC23 hc23 P22 CP22 XQ22 XR22 cR_
                go_wp2_with fail
                (go_at_call 17; refine (chancelref07_Same.calls kl A23 c23 xs A c xs true _ C23.out HC23.out (Kd.C_below HR.out P23.out.b) hc KL.out).mono ?_; rintro e w24 ⟨rfl, hd24⟩)
                have hb24 := below_drawn hd24
                have P24 := Lib.hid (P23.out.next hb24)
                have CP24 := Lib.hid (Kd.C_below CP23.out hb24)
                have XQ24 := Lib.hid (blk_below XQ23.out hb24)
                have XR24 := Lib.hid (blk_below XR23.out hb24)
                clear hd24 hb24 P23 CP23 XQ23 XR23 C23 HC23
                go_wp2
                go_ret
                exact ⟨rfl, P24.out.b⟩
          · obtain ⟨ps, hps⟩ : ∃ ps, ps = puU xs x d := ⟨_, rfl⟩
            obtain ⟨ts1, hts1⟩ : ∃ ts1, ts1 = ps.map thOf := ⟨_, rfl⟩
            have PT : Hid (pushT (xs.map thOf) (thOf x) d = ts1) := Lib.hid (by rw [(push_goes (xs := xs) (x := x) (d := d)).1, hts1, hps])
            have POK : Hid (∀ y ∈ ps, okU y) := Lib.hid (fun y hy => by rw [hps] at hy; exact pu_ok OK.out OKX.out hy)
            have PPL : Hid (ts1.map plainTh = ps) := Lib.hid (by rw [hts1]; exact plain_of POK.out)
            have PLL : Hid (ts1.length = ps.length) := Lib.hid (by rw [hts1, List.length_map])
            have PLN : ps.length ≤ 1099511627776 := by rw [hps]; have := pu_len xs x d; omega
            have HPS := Lib.hid hps.symm
            clear hps hts1
            have PO := Lib.hid (push_goes (xs := xs) (x := x) (d := d)).2
            have GO0 : Hid (goU xs x d = []) := Lib.hid (by unfold goU; rw [if_neg hbig])
            have PO1 : Hid (pushO (xs.map thOf) (thOf x) d = none) := Lib.hid (by rw [PO.out, GO0.out]; rfl)
            have l4 := PV.out.h4
            have l9 := PV.out.h9
            have a0 : V.cell? ⟨gX, 0, none⟩ = some (.int .i64 x.f0) := blk_cell l4 0
            have a1 : V.cell? ⟨gX, 1, none⟩ = some (.int .i64 x.f1) := blk_cell l4 1
            have a2 : V.cell? ⟨gX, 2, none⟩ = some (.int .i64 x.f2) := blk_cell l4 2
            have a3 : V.cell? ⟨gX, 3, none⟩ = some (.int .i64 x.f3) := blk_cell l4 3
            have a4 : V.cell? ⟨gX, 4, none⟩ = some (.string x.f4) := blk_cell l4 4
            have s0 : V.cell? ⟨gS, 0, none⟩ = some (.slice A7 xs.length c7) := blk_cell l9 0
            clear l4 l9 hbig
            have QS := Lib.hid (Q7.of PV.out.h4 PV.out.h9 (Below.refl _ _))
            clear a0 a1 a2 a3 a4 s0
            go_region_held3 (fun w' => Q7 V gX gS x A7 xs.length c7 w')
              (first | (with_reducible assumption) | (with_reducible exact HS8.out) | (with_reducible exact HS9.out) | (with_reducible exact Q7.of PV.out.h4 PV.out.h9 (below_set (Q7.b HS9.out) (Nat.le_refl _))) | (with_reducible exact Q7.of PV.out.h4 PV.out.h9 (below_set (Q7.b HS9.out) (Q7.b HS8.out).size)) | (with_reducible exact Q7.of PV.out.h4 PV.out.h9 (below_set (below_alloc (Q7.b HS9.out) _) (Q7.b HS9.out).size)) | (with_reducible exact Q7.next HS8.out (below_alloc (Below.refl _ _) _)) | (with_reducible exact Q7.next HS9.out (below_alloc (Below.refl _ _) _)) | exact QS.out.next (by (with_reducible repeat (first | exact Below.refl _ _ | apply pw_below_drewN | apply Below.drew | apply below_alloc))))
              (first
              | (go_at_call 11; (refine (thing_calls x _ ?ca OKX.out hzx2).mono ?_); (case ca => exact HT.out.below (below_step PV.out.b (Q7.b (V := V) (gX := gX) (gS := gS) (x := x) (A := A7) (n := xs.length) (c := c7) (by assumption)))); rintro e w8 ⟨y, rfl, hy, hb8⟩; have HY := Lib.hid hy; have HS8 := Lib.hid (Q7.next (V := V) (gX := gX) (gS := gS) (x := x) (A := A7) (n := xs.length) (c := c7) (by assumption) hb8); (first | (refine gen_q (g := V.heap.size) ?hq1 hb8 (fun Q8 => ?_); (case hq1 => first | exact blk_newAt rfl | exact blk_drew (blk_newAt rfl))) | skip); clear hy hb8)
              | (go_at_call 18; (refine (push_none A7 xs.length c7 (xs.map thOf) ts1 y (thOf x) d _ ?cb ?cc LL.out PT.out PO1.out).mono ?_); (case cb => exact PV.out.s.below (Q7.b (V := V) (gX := gX) (gS := gS) (x := x) (A := A7) (n := xs.length) (c := c7) (by assumption))); (case cc => first | exact HY.out | exact HY.out.below (by repeat (first | exact Below.refl _ _ | apply Below.drew | apply below_alloc))); rintro e w9 ⟨A9, c9, rfl, hs9, hb9⟩; have HS9 := Lib.hid (Q7.next (V := V) (gX := gX) (gS := gS) (x := x) (A := A7) (n := xs.length) (c := c7) (by assumption) hb9); (first | (refine gen_q (g := V.heap.size) Q8.out hb9 (fun Q9 => ?_); have q0 := (blk_cell Q9.out 0).trans rfl; have q1 := blk_frozen Q9.out 0) | (refine gen_q (g := w8.heap.size) ?hq2 hb9 (fun Q9 => ?_); (case hq2 => first | exact blk_newAt rfl | exact blk_drew (blk_newAt rfl)); have q0 := (blk_cell Q9.out 0).trans rfl; have q1 := blk_frozen Q9.out 0) | skip); have S9 := Lib.hid hs9; have B9 := Lib.hid (Q7.b HS9.out); clear hs9 hb9))
            all_goals
              go_upto_region 8 with (fail)
              first | (refine gen2 (φ := fun W => Code.wp _ _ _ _ W) (P := fun W => PuT w gX gS x A7 xs.length c7 (xs.map thOf) (V.heap.size) A9 ts1.length c9 ts1 W ∧ True) ⟨⟨PV.out.next (below_set B9.out (Nat.le_refl _)), blk_put Q9.out 0 _ rfl, S9.out.move (set_type Q9.out (by decide) _ _) (set_type Q9.out (by decide) _ _)⟩, trivial⟩ ?_; generalize V.heap.size = g11) | (refine gen2 (φ := fun W => Code.wp _ _ _ _ W) (P := fun W => PuT w gX gS x A7 xs.length c7 (xs.map thOf) (w8.heap.size) A9 ts1.length c9 ts1 W ∧ True) ⟨⟨PV.out.next (below_set B9.out ((Q7.b HS8.out).size)), blk_put Q9.out 0 _ rfl, S9.out.move (set_type Q9.out (by decide) _ _) (set_type Q9.out (by decide) _ _)⟩, trivial⟩ ?_; generalize w8.heap.size = g11) | (refine gen2 (φ := fun W => Code.wp _ _ _ _ W) (P := fun W => PuT w gX gS x A7 xs.length c7 (xs.map thOf) (w9.heap.size) A9 ts1.length c9 ts1 W ∧ True) ⟨⟨PV.out.next (below_alloc B9.out _), blk_newAt rfl, S9.out.below (below_alloc (Below.refl _ _) _)⟩, trivial⟩ ?_; generalize w9.heap.size = g11)
              rintro U0 hU0
              have PU := Lib.hid hU0.1
              skip
              have l4 := hU0.1.h4
              clear hU0 S9 B9 HY PV QS HS8 HS9
              have a0 : U0.cell? ⟨gX, 0, none⟩ = some (.int .i64 x.f0) := blk_cell l4 0
              have a1 : U0.cell? ⟨gX, 1, none⟩ = some (.int .i64 x.f1) := blk_cell l4 1
              have a2 : U0.cell? ⟨gX, 2, none⟩ = some (.int .i64 x.f2) := blk_cell l4 2
              have a3 : U0.cell? ⟨gX, 3, none⟩ = some (.int .i64 x.f3) := blk_cell l4 3
              have a4 : U0.cell? ⟨gX, 4, none⟩ = some (.string x.f4) := blk_cell l4 4
              clear l4
              go_wp2_with fail
              (go_at_call 19; refine (refPush_go A c xs x d ps [] 0 _ (Kd.C_below HR.out PU.out.b) hc hn2 HPS.out GO0.out rfl).mono ?_; rintro e w10 ⟨Ap, cp, Ag, cg, rfl, hcp, hCp, hCg, hb10⟩)
              have P10 := Lib.hid (PU.out.next hb10)
              have CP := Lib.hid hCp
              have HCP := Lib.hid hcp
              have CG := Lib.hid hCg
              skip
              clear hb10 hCp hCg hcp a0 a1 a2 a3 a4 PU
              go_wp2_with fail
              (go_at_call 20; refine (plainV_none _).mono ?_; rintro e w11 ⟨rfl, hb11⟩)
              have P11 := Lib.hid (P10.out.next hb11)
              have CP11 := Lib.hid (Kd.C_below CP.out hb11)
              have CG11 := Lib.hid (Kd.C_below CG.out hb11)
              clear hb11 P10 CP CG
              go_upto_region 10 with (first | ((with_reducible refine gate_dst (N := 15) rfl ?_); refine box_event ?hg (N := 15) ?hd (cs := #[.int .i64 0, .int .i64 0, .int .i64 0, .int .i64 0, .string ByteArray.empty]) (t := 23) ?hr ?_; (case hd => rfl); (case hg => rfl); (case hr => first | (go_simp; done) | (go_simp; rfl)); intro gP hgP wP hxP hbP; have GP := Lib.hid (show w11.heap.size ≤ gP by rw [hgP]; exact Nat.le_refl _); have BP := Lib.hid hbP; have XP := Lib.hid hxP; have y0 := (blk_cell hxP 0).trans rfl; have y1 := (blk_cell hxP 1).trans rfl; have y2 := (blk_cell hxP 2).trans rfl; have y3 := (blk_cell hxP 3).trans rfl; have y4 := (blk_cell hxP 4).trans rfl; have z0 := blk_frozen hxP 0; have z1 := blk_frozen hxP 1; have z2 := blk_frozen hxP 2; have z3 := blk_frozen hxP 3; have z4 := blk_frozen hxP 4; clear hgP hxP hbP))
              refine gen2 (φ := fun W => Code.wp _ _ _ _ W) (P := fun W => Below w11.heap.size w11 W ∧ W.heap[gP]? = some (.cells (ldCells zU) 23 (0, 0))) ⟨below_set (below_set (below_set (below_set (below_set BP.out GP.out) GP.out) GP.out) GP.out) GP.out, by simpa [zU] using blk_set (blk_set (blk_set (blk_set (blk_set XP.out 0 (.int .i64 0)) 1 (.int .i64 0)) 2 (.int .i64 0)) 3 (.int .i64 0)) 4 (.string ⟨#[]⟩)⟩ ?_
              rintro U1 ⟨hb12, hxP⟩
              clear y0 y1 y2 y3 y4 z0 z1 z2 z3 z4 XP BP GP
              have P12 := Lib.hid (P11.out.next hb12)
              have CP12 := Lib.hid (Kd.C_below CP11.out hb12)
              have CG12 := Lib.hid (Kd.C_below CG11.out hb12)
              have a0 := (blk_cell hxP 0).trans rfl
              have a1 := (blk_cell hxP 1).trans rfl
              have a2 := (blk_cell hxP 2).trans rfl
              have a3 := (blk_cell hxP 3).trans rfl
              have a4 := (blk_cell hxP 4).trans rfl
              skip
              clear hb12 hxP P11 CP11 CG11
              have c9_ : U1.cell? ⟨gS, 0, none⟩ = some (.slice A7 xs.length c7) := blk_cell P12.out.h9 0
              go_region
              all_goals
                clear a0 a1 a2 a3 a4
                go_wp2_with fail
                (go_at_call 18; refine (push_str A7 xs.length c7 _ d _).mono ?_; rintro e w13 ⟨rfl, hb13⟩)
                have HB13 := Lib.hid (show Below U1.heap.size U1 w13 from below_step (Below.refl _ _).drew hb13)
                have P13 := Lib.hid (P12.out.next HB13.out)
                have CP13 := Lib.hid (Kd.C_below CP12.out HB13.out)
                clear hb13 HB13 P12 CP12 CG12 c9_
                go_upto_region 13 with (first | ((with_reducible refine gate_dst (N := 17) rfl ?_); refine box_event ?hg (N := 17) ?hd (cs := #[.slice none 0 0]) (t := 38) ?hr ?_; (case hd => rfl); (case hg => rfl); (case hr => first | (go_simp; done) | (go_simp; rfl)); intro gQ hgQ wQ hxQ hbQ; have GQ := Lib.hid (show w13.heap.size ≤ gQ by rw [hgQ]; exact Nat.le_refl _); have BQ := Lib.hid hbQ; have XQ := Lib.hid hxQ; have y0 := (blk_cell hxQ 0).trans rfl; have z0 := blk_frozen hxQ 0; clear hgQ hxQ hbQ))
                refine gen2 (φ := fun W => Code.wp _ _ _ _ W) (P := fun W => Below w13.heap.size w13 W ∧ W.heap[gQ]? = some (.cells #[.slice A7 xs.length c7] 38 (0, 0))) ⟨below_set BQ.out GQ.out, blk_put XQ.out 0 _ rfl⟩ ?_
                clear y0 z0 XQ BQ GQ
                rintro U2 ⟨hb14, hxQ⟩
                have P14 := Lib.hid (P13.out.next hb14)
                have CP14 := Lib.hid (Kd.C_below CP13.out hb14)
                have XQ := Lib.hid hxQ
                clear hb14 hxQ P13 CP13
                have c9_ : U2.cell? ⟨gS, 0, none⟩ = some (.slice A7 xs.length c7) := blk_cell P14.out.h9 0
                go_wp2_with fail
                (go_at_call 18; refine (push_nil A7 xs.length c7 d _).mono ?_; rintro e w15 ⟨rfl, hb15⟩)
                have P15 := Lib.hid (P14.out.next hb15)
                have CP15 := Lib.hid (Kd.C_below CP14.out hb15)
                have XQ15 := Lib.hid (blk_below XQ.out hb15)
                clear hb15 P14 CP14 XQ c9_
                go_upto_region 14 with (first | ((with_reducible refine gate_dst (N := 19) rfl ?_); refine box_event ?hg (N := 19) ?hd (cs := #[.slice none 0 0]) (t := 38) ?hr ?_; (case hd => rfl); (case hg => rfl); (case hr => first | (go_simp; done) | (go_simp; rfl)); intro gR hgR wR hxR hbR; have GR := Lib.hid (show w15.heap.size ≤ gR by rw [hgR]; exact Nat.le_refl _); have BR := Lib.hid hbR; have XR := Lib.hid hxR; have y0 := (blk_cell hxR 0).trans rfl; have z0 := blk_frozen hxR 0; clear hgR hxR hbR))
                refine gen2 (φ := fun W => Code.wp _ _ _ _ W) (P := fun W => Below w15.heap.size w15 W ∧ W.heap[gR]? = some (.cells #[.slice A7 xs.length c7] 38 (0, 0))) ⟨below_set BR.out GR.out, blk_put XR.out 0 _ rfl⟩ ?_
                clear y0 z0 XR BR GR
                rintro U3 ⟨hb16, hxR⟩
                have P16 := Lib.hid (P15.out.next hb16)
                have CP16 := Lib.hid (Kd.C_below CP15.out hb16)
                have XQ := Lib.hid (blk_below XQ15.out hb16)
                have XR := Lib.hid hxR
                clear hb16 hxR P15 CP15 XQ15
                have OKP := Lib.hid (plain_of OK.out)
                obtain ⟨kp, hkp⟩ := Go.Proofs.YthkihkkmoknbjaaDoorW.PrintWords.Ev.rounds (same_ev ps (by omega))
                obtain ⟨kl, hkl⟩ := Go.Proofs.YthkihkkmoknbjaaDoorW.PrintWords.Ev.rounds (same_ev xs hn)
                have KP := Lib.hid hkp
                have KL := Lib.hid hkl
                clear hkp hkl
                have c11_ : U3.cell? ⟨g11, 0, none⟩ = some (.slice A9 ts1.length c9) := blk_cell P16.out.h11 0
                go_wp2_with fail
                (go_at_call 15; refine (plain_calls (.agg #[.slice A9 ts1.length c9]) ts1 _ P16.out.s11 (by rw [PLL.out]; omega)).mono ?_; rintro e w17 ⟨v17, rfl, hr17, hb17⟩)
                rw [PPL.out] at hr17
                obtain ⟨A17, c17, e17, hc17, hC17⟩ := Kd.R_reads hr17
                subst e17
                have C17 := Lib.hid hC17
                have HC17 := Lib.hid hc17
                have P17 := Lib.hid (P16.out.next hb17)
                have CP17 := Lib.hid (Kd.C_below CP16.out hb17)
                have XQ17 := Lib.hid (blk_below XQ.out hb17)
                have XR17 := Lib.hid (blk_below XR.out hb17)
                clear hr17 hb17 hC17 hc17 P16 CP16 XQ XR c11_
                go_wp2_with fail
                (go_at_call 17; refine (chancelref07_Same.calls kp A17 c17 ps Ap cp ps true _ C17.out HC17.out CP17.out HCP.out KP.out).mono ?_; rintro e w18 ⟨rfl, hd18⟩)
                have hb18 := below_drawn hd18
                have P18 := Lib.hid (P17.out.next hb18)
                have CP18 := Lib.hid (Kd.C_below CP17.out hb18)
                have XQ18 := Lib.hid (blk_below XQ17.out hb18)
                have XR18 := Lib.hid (blk_below XR17.out hb18)
                clear hd18 hb18 P17 CP17 XQ17 XR17 C17 HC17
                have c9_ : w18.cell? ⟨gS, 0, none⟩ = some (.slice A7 xs.length c7) := blk_cell P18.out.h9 0
                go_wp2_with fail
                (go_at_call 15; refine (plain_calls (.agg #[.slice A7 xs.length c7]) (xs.map thOf) _ P18.out.s LL.out).mono ?_; rintro e w19 ⟨v19, rfl, hr19, hb19⟩)
                rw [OKP.out] at hr19
                obtain ⟨A19, c19, e19, hc19, hC19⟩ := Kd.R_reads hr19
                subst e19
                have C19 := Lib.hid hC19
                have HC19 := Lib.hid hc19
                have P19 := Lib.hid (P18.out.next hb19)
                have CP19 := Lib.hid (Kd.C_below CP18.out hb19)
                have XQ19 := Lib.hid (blk_below XQ18.out hb19)
                have XR19 := Lib.hid (blk_below XR18.out hb19)
                clear hr19 hb19 hC19 hc19 P18 CP18 XQ18 XR18 c9_
                go_wp2_with fail
                (go_at_call 17; refine (chancelref07_Same.calls kl A19 c19 xs A c xs true _ C19.out HC19.out (Kd.C_below HR.out P19.out.b) hc KL.out).mono ?_; rintro e w20 ⟨rfl, hd20⟩)
                have hb20 := below_drawn hd20
                have P20 := Lib.hid (P19.out.next hb20)
                have CP20 := Lib.hid (Kd.C_below CP19.out hb20)
                have XQ20 := Lib.hid (blk_below XQ19.out hb20)
                have XR20 := Lib.hid (blk_below XR19.out hb20)
                clear hd20 hb20 P19 CP19 XQ19 XR19 C19 HC19
                have XQ := XQ20
                have XR := XR20
                have cQ_ : w20.cell? ⟨gQ, 0, none⟩ = some (.slice A7 xs.length c7) := blk_cell XQ.out 0
                go_wp2_with fail
                (go_at_call 15; refine (plain_calls (.agg #[.slice A7 xs.length c7]) (xs.map thOf) _ P20.out.s LL.out).mono ?_; rintro e w21 ⟨v21, rfl, hr21, hb21⟩)
                rw [OKP.out] at hr21
                obtain ⟨A21, c21, e21, hc21, hC21⟩ := Kd.R_reads hr21
                subst e21
                have C21 := Lib.hid hC21
                have HC21 := Lib.hid hc21
                have P21 := Lib.hid (P20.out.next hb21)
                have CP21 := Lib.hid (Kd.C_below CP20.out hb21)
                have XQ21 := Lib.hid (blk_below XQ20.out hb21)
                have XR21 := Lib.hid (blk_below XR20.out hb21)
                clear hr21 hb21 hC21 hc21 P20 CP20 XQ20 XR20 cQ_
                go_wp2_with fail
                (go_at_call 17; refine (chancelref07_Same.calls kl A21 c21 xs A c xs true _ C21.out HC21.out (Kd.C_below HR.out P21.out.b) hc KL.out).mono ?_; rintro e w22 ⟨rfl, hd22⟩)
                have hb22 := below_drawn hd22
                have P22 := Lib.hid (P21.out.next hb22)
                have CP22 := Lib.hid (Kd.C_below CP21.out hb22)
                have XQ22 := Lib.hid (blk_below XQ21.out hb22)
                have XR22 := Lib.hid (blk_below XR21.out hb22)
                clear hd22 hb22 P21 CP21 XQ21 XR21 C21 HC21
                have XQ := XQ22
                have XR := XR22
                have cR_ : w22.cell? ⟨gR, 0, none⟩ = some (.slice A7 xs.length c7) := blk_cell XR.out 0
                go_wp2_with fail
                (go_at_call 15; refine (plain_calls (.agg #[.slice A7 xs.length c7]) (xs.map thOf) _ P22.out.s LL.out).mono ?_; rintro e w23 ⟨v23, rfl, hr23, hb23⟩)
                rw [OKP.out] at hr23
                obtain ⟨A23, c23, e23, hc23, hC23⟩ := Kd.R_reads hr23
                subst e23
                have C23 := Lib.hid hC23
                have HC23 := Lib.hid hc23
                have P23 := Lib.hid (P22.out.next hb23)
                have CP23 := Lib.hid (Kd.C_below CP22.out hb23)
                have XQ23 := Lib.hid (blk_below XQ22.out hb23)
                have XR23 := Lib.hid (blk_below XR22.out hb23)
                clear hr23 hb23 hC23 hc23 P22 CP22 XQ22 XR22 cR_
                go_wp2_with fail
                (go_at_call 17; refine (chancelref07_Same.calls kl A23 c23 xs A c xs true _ C23.out HC23.out (Kd.C_below HR.out P23.out.b) hc KL.out).mono ?_; rintro e w24 ⟨rfl, hd24⟩)
                have hb24 := below_drawn hd24
                have P24 := Lib.hid (P23.out.next hb24)
                have CP24 := Lib.hid (Kd.C_below CP23.out hb24)
                have XQ24 := Lib.hid (blk_below XQ23.out hb24)
                have XR24 := Lib.hid (blk_below XR23.out hb24)
                clear hd24 hb24 P23 CP23 XQ23 XR23 C23 HC23
                go_wp2
                go_ret
                exact ⟨rfl, P24.out.b⟩
end Go.Proofs.YthkihkkmoknbjaaDoor.Undo
