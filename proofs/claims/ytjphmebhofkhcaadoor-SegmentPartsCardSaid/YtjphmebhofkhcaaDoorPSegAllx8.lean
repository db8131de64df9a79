-- Written by a program of this session around the given print (and over contracts of this session): not checked by anybody but Lean.
import Derived.Test.YtjphmebhofkhcaaDoorPSegAllx0
import Derived.Test.YtjphmebhofkhcaaDoorPSegAllx6
import Derived.Test.YtjphmebhofkhcaaDoorPSegAllx7
namespace Go.Proofs.YtjphmebhofkhcaaDoor.PSegAll
open Go.RowKit Go.Proofs.YtjphmebhofkhcaaDoorW.PrintWords Go.Proofs.YtjphmebhofkhcaaDoorW.PrintLast Go.Proofs.YtjphmebhofkhcaaDoorW.PrintMore
attribute [local go_sem] max2_int min2_int max_two min_two max_three min_three max_four min_four   -- for this text's walks alone
set_option linter.unusedVariables false
set_option linter.unusedSimpArgs false

/-! ### chancelref05_marks: function 39 -/

/-! ### chancelref01_Letters: function 66 -/
def chancelref01_Letters.l0 : Nat → ByteArray → List Int → Option (List Int)
 | 0, _, _ => none
 | k + 1, x0, x3 => if x0.toList = ([] : List UInt8) then (some x3) else ((chancelref01_size.f k x0).bind fun bt182 => (if x3.length < 35184372088832 then (if 0 ≤ bt182.1 then (if bt182.1 ≤ (x0.size : Int) then (chancelref01_Letters.l0 k (x0.extract (bt182.1 : Int).toNat x0.size) (x3 ++ [bt182.2])) else (none)) else (none)) else (none)))
def chancelref01_Letters.f (k : Nat) (a0 : ByteArray) : Option (List Int) := chancelref01_Letters.l0 k a0 ([] : List Int)
theorem chancelref01_Letters.mono_l : ∀ k, (∀ y0 y1, LeO (chancelref01_Letters.l0 k y0 y1) (chancelref01_Letters.l0 (k + 1) y0 y1))
 | 0 => fun _ _ r h => by simp [chancelref01_Letters.l0] at h
 | k + 1 => by
  have ih0 := chancelref01_Letters.mono_l k
  ·intro y0 y1
   unfold chancelref01_Letters.l0
   repeat' first
   | (with_reducible exact ih0 _ _)
   | (with_reducible exact chancelref01_size.mono _ _)
   | (with_reducible exact LeO.refl _)
   | (with_reducible exact LeO.none _)
   | (with_reducible refine LeO.ite ?_ ?_)
   | (with_reducible refine LeO.bind ?_ (fun _ => ?_))
   | exact ih0 _ _
   | exact chancelref01_size.mono _ _
   | exact LeO.none _
   | refine LeO.ite ?_ ?_
   | refine LeO.bind ?_ (fun _ => ?_)
theorem chancelref01_Letters.mono : ∀ a0 k, LeO (chancelref01_Letters.f k a0) (chancelref01_Letters.f (k + 1) a0) := by
 intro a0 k
 have ih0 := chancelref01_Letters.mono_l k
 unfold chancelref01_Letters.f
 repeat' first
   | (with_reducible exact ih0 _ _)
   | (with_reducible exact chancelref01_size.mono _ _)
   | (with_reducible exact LeO.refl _)
   | (with_reducible exact LeO.none _)
   | (with_reducible refine LeO.ite ?_ ?_)
   | (with_reducible refine LeO.bind ?_ (fun _ => ?_))
   | exact ih0 _ _
   | exact chancelref01_size.mono _ _
   | exact LeO.none _
   | refine LeO.ite ?_ ?_
   | refine LeO.bind ?_ (fun _ => ?_)
set_option maxHeartbeats 8000000 in
set_option maxRecDepth 100000 in
theorem chancelref01_Letters.calls (k : Nat) (a0 : ByteArray) (r : List Int) (w : World) (h : chancelref01_Letters.f k a0 = some r) :
  Calls Tryd.prog 66 #[.string a0] w fun e w' => ∃ v0_ : Value, e = .returned (v0_) ∧ Kd.R (Kd.int .i32) 21 w' w.heap.size (fun _ => True) v0_ r ∧ Below w.heap.size w w' := by
 have HB := Aside0.mk (Below.refl w.heap.size w)
 have H : (chancelref01_Letters.l0 k a0 ([] : List Int)) = some r := h
 clear h
 have H' := Aside0.mk H
 clear H
 go_enter Tryd.func66, Tryd.ntmps66
 go_wp2
 go_loopg [0, 3] k (fun kq v0 v3 w' => ∃ (x0_1 : ByteArray) (x3_1 : List Int), v0 = .string x0_1 ∧ Aside0 (chancelref01_Letters.l0 kq x0_1 x3_1 = some r) ∧ Aside0 (kq ≤ k) ∧ Aside0 (Kd.R (Kd.int .i32) 21 w' w.heap.size (fun _ => True) v3 x3_1) ∧ Aside0 (Below w.heap.size w w'))
 case atStart => exact ⟨(a0), (([] : List Int)), (by first|rfl|(simp;done)|(simp [*];done)), H', ⟨Nat.le_refl _⟩, ⟨by first|exact Kd.R_nil _ _ _ _ _|exact Kd.N_nil _ _ _ _ _|exact Kd.V_nil _ _ _ _ _|exact Kd.Q_nil _ _ _ _ _|exact Kd.S_nil _ _ _ _ _⟩, ⟨by repeat (first|(with_reducible first|exact HB.out|apply below_alloc|apply pw_below_drewN|apply below_drew1)|exact HB.out)⟩⟩
 case round =>
  clear H'
  obtain ⟨x0_1, x3_1, rfl, HA, HK1, HO_3, HB⟩ := hrel
  cases gk with
  | zero => exact absurd HA.out (by simp [chancelref01_Letters.l0])
  | succ k1 =>
   have H := HA.out
   clear HA
   simp only [chancelref01_Letters.l0] at H
   by_cases c2 : x0_1.toList = ([] : List UInt8)
   ·rw [if_pos c2] at H
    have c2b0 : (x0_1.toList == ([] : List UInt8)) = true := beq_iff_eq.mpr c2
    have c2b1 : (x0_1.toList != ([] : List UInt8)) = false := bne_eq_false_iff_eq.mpr c2
    clear c2
    obtain rfl := Option.some.inj H
    go_wp2
    go_ret
    exact ⟨_, by first|rfl|(simp [errW_none, errW_some] <;> rfl)|(simp [*, errW_none, errW_some] <;> rfl), by (with_reducible repeat (first|apply Kd.R_alloc|apply Kd.R_drewN|apply Kd.R_drew));exact HO_3.out, by repeat (first|(with_reducible first|exact HB.out|apply below_alloc|apply pw_below_drewN|apply below_drew1)|exact HB.out)⟩
   ·rw [if_neg c2] at H
    have c2b0 : (x0_1.toList == ([] : List UInt8)) = false := beq_eq_false_iff_ne.mpr c2
    have c2b1 : (x0_1.toList != ([] : List UInt8)) = true := bne_iff_ne.mpr c2
    replace H := Option.bind_eq_some_iff.mp H
    obtain ⟨⟨t182, t183⟩, A30, H⟩ := H
    replace H : (if x3_1.length < 35184372088832 then (if 0 ≤ t182 then (if t182 ≤ (x0_1.size : Int) then (chancelref01_Letters.l0 k1 (x0_1.extract (t182 : Int).toNat x0_1.size) (x3_1 ++ [t183])) else (none)) else (none)) else (none)) = some r := H
    have A3 := Aside0.mk A30
    clear A30
    by_cases c4 : x3_1.length < 35184372088832
    ·rw [if_pos c4] at H
     have LMc4 := Aside0.mk c4
     clear c4
     obtain ⟨y184, hy184⟩ : ∃ y_ : List Int, y_ = (x3_1 ++ [t183]) := ⟨_, rfl⟩
     replace H : (if 0 ≤ t182 then (if t182 ≤ (x0_1.size : Int) then (chancelref01_Letters.l0 k1 (x0_1.extract (t182 : Int).toNat x0_1.size) y184) else (none)) else (none)) = some r:=by first|(rw [hy184];with_reducible exact H)|(have H2_:=(Option.bind_some _ _).symm.trans H;rw [hy184];with_reducible exact H2_)|(have H2_:=(Option.bind_some _ _).symm.trans H;with_reducible exact H2_)|with_reducible exact H|(rw [hy184];exact H)|exact H
     have Ny184 := Aside0.mk hy184
     clear hy184
     by_cases c5 : 0 ≤ t182
     ·rw [if_pos c5] at H
      have c5b0 := eq_true c5
      have c5b1 : decide (0 ≤ t182) = true := decide_eq_true c5
      clear c5
      by_cases c6 : t182 ≤ (x0_1.size : Int)
      ·rw [if_pos c6] at H
       have c6b0 := eq_true c6
       have c6b1 : decide (t182 ≤ (x0_1.size : Int)) = true := decide_eq_true c6
       clear c6
       have H' := Aside0.mk H
       clear H
       go_wp2_with (first|((with_reducible refine gate_callee (f:=65) rfl ?_);refine goesL_ (some 10) rfl rfl Tryd.func65 (by kernel_rfl) rfl #[.string x0_1] rfl (by (try simp only [List.map_toArray, List.map_cons, List.map_nil]);first|done|rfl|(simp only [List.length_drop, List.length_take];rfl)) ?_;(with_reducible refine (chancelref01_size.calls k1 x0_1 t182 t183 _ A3.out).mono ?_);rintro e w' ⟨rfl, ⟨nd, rfl⟩⟩;refine ⟨_, rfl, ?_⟩)|((with_reducible refine gate_builtin (b:=.append) (xs:=#[.tmp 13, .tmp 15]) rfl ?_);at_builtin;refine Kd.R_append (Kd.int .i32) (w0:=w) w.heap.size rfl (.tmp 13) (.tmp 15) 106 21 (.int .i32 0) 4 rfl Tryd.underlying106 info21 rfl (by decide) (by omega) u3 x3_1 t183 [.int .i32 t183] (fun _ => True) (fun _ => False) rfl rfl ?aP (fun _ hk => hk.elim) ?aF ?aO ?aB ?aS ?aL ?_;(case aP => exact rfl);(case aB => exact (by repeat (first|(with_reducible first|exact HB.out|apply below_alloc|apply pw_below_drewN|apply below_drew1)|exact HB.out)));(case aF => exact (fun _ _ => trivial));(case aO => exact (by (with_reducible repeat (first|apply Kd.R_alloc|apply Kd.R_drewN|apply Kd.R_drew));exact HO_3.out));(case aS => exact (below_size (by repeat (first|(with_reducible first|exact HB.out|apply below_alloc|apply pw_below_drewN|apply below_drew1)|exact HB.out))));(case aL => have:=LMc4.out;omega);intro v185 w7 ho hb hg hat;rw [← Ny184.out] at ho;have n0_:=Aside0.mk (hb);have n1_:=Aside0.mk (ho);clear HB;clear HO_3;have HB:=n0_;have HO186:=n1_;clear n0_ n1_;clear ho hb hg hat))
       go_roundg k1
       case measure => have := HK1.out; omega
       case rel => exact ⟨(x0_1.extract (t182 : Int).toNat x0_1.size), (y184), (by first|rfl|(simp;done)|(simp [*];done)), H', ⟨by have:=HK1.out;omega⟩, ⟨by (with_reducible repeat (first|apply Kd.R_alloc|apply Kd.R_drewN|apply Kd.R_drew));exact HO186.out⟩, ⟨by repeat (first|(with_reducible first|exact HB.out|apply below_alloc|apply pw_below_drewN|apply below_drew1)|exact HB.out)⟩⟩
      ·rw [if_neg c6] at H
       exact absurd H (by simp)
     ·rw [if_neg c5] at H
      exact absurd H (by simp)
    ·rw [if_neg c4] at H
     exact absurd H (by simp)

/-! ### chancelref01_Count: function 40 -/
def chancelref01_Count.f (k : Nat) (a0 : ByteArray) : Option (Int) := (chancelref01_Letters.f k a0).bind fun t187 => (some (t187.length : Int))
theorem chancelref01_Count.mono : ∀ a0 k, LeO (chancelref01_Count.f k a0) (chancelref01_Count.f (k + 1) a0) := by
 intro a0 k
 unfold chancelref01_Count.f
 repeat' first
   | (with_reducible exact chancelref01_Letters.mono _ _)
   | (with_reducible exact LeO.refl _)
   | (with_reducible exact LeO.none _)
   | (with_reducible refine LeO.ite ?_ ?_)
   | (with_reducible refine LeO.bind ?_ (fun _ => ?_))
   | exact chancelref01_Letters.mono _ _
   | exact LeO.none _
   | refine LeO.ite ?_ ?_
   | refine LeO.bind ?_ (fun _ => ?_)
set_option maxHeartbeats 8000000 in
set_option maxRecDepth 100000 in
theorem chancelref01_Count.calls (k : Nat) (a0 : ByteArray) (r : Int) (w : World) (h : chancelref01_Count.f k a0 = some r) :
  Calls Tryd.prog 40 #[.string a0] w fun e w' => e = .returned (.int .i64 r) ∧ Below w.heap.size w w' := by
 have HB := Aside0.mk (Below.refl w.heap.size w)
 have H : ((chancelref01_Letters.f k a0).bind fun t187 => (some (t187.length : Int))) = some r := h
 clear h
 replace H := Option.bind_eq_some_iff.mp H
 obtain ⟨t187, A20, H⟩ := H
 replace H : (some (t187.length : Int)) = some r := H
 have A2 := Aside0.mk A20
 clear A20
 obtain rfl := Option.some.inj H
 go_enter Tryd.func40, Tryd.ntmps40
 go_wp2_with (first|((with_reducible refine gate_callee (f:=66) rfl ?_);refine goesL_ (some 4) rfl rfl Tryd.func66 (by kernel_rfl) rfl #[.string a0] rfl (by (try simp only [List.map_toArray, List.map_cons, List.map_nil]);first|done|rfl|(simp only [List.length_drop, List.length_take];rfl)) ?_;(with_reducible refine (chancelref01_Letters.calls k a0 t187 _ A2.out).mono ?_);rintro e w3 ⟨v188, rfl, ho0, hb⟩;refine ⟨_, rfl, ?_⟩;have n0_:=Aside0.mk (Kd.R_lower ho0 (below_size (by repeat (first|(with_reducible first|exact HB.out|apply below_alloc|apply pw_below_drewN|apply below_drew1)|exact HB.out))));have n1_:=Aside0.mk (below_step (by repeat (first|(with_reducible first|exact HB.out|apply below_alloc|apply pw_below_drewN|apply below_drew1)|exact HB.out)) hb);clear HB;have HO189:=n0_;have HB:=n1_;clear n0_ n1_;(try clear hb);(try clear hb2);(try clear hk);(try clear hi);(try clear ho0);obtain ⟨Ao4, co4, eo4⟩:=Kd.R_slice HO189.out;subst eo4))
 go_ret
 exact ⟨by first|rfl|(simp [errW_none, errW_some] <;> rfl)|(simp [*, errW_none, errW_some] <;> rfl), by repeat (first|(with_reducible first|exact HB.out|apply below_alloc|apply pw_below_drewN|apply below_drew1)|exact HB.out)⟩

/-! ### chancelref05_Right: function 12 -/

-- NOT PRINTED: function 3 (chancellaw05_SegmentLoads)

/-! ### marks_Of: function 47 -/

-- NOT PRINTED: function 17 (segment_Segment_Has)

-- NOT PRINTED: function 18 (chancellaw05_loaded)

/-! ### chancelref05_with: function 48 -/

end Go.Proofs.YtjphmebhofkhcaaDoor.PSegAll
