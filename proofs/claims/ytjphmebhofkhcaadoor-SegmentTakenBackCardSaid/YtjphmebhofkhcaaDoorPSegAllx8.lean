-- Written by a program of this session around the given print (and over contracts of this session): not checked by anybody but Lean.
import Derived.Test.YtjphmebhofkhcaaDoorPSegAllx0
import Derived.Test.YtjphmebhofkhcaaDoorPSegAllx6
import Derived.Test.YtjphmebhofkhcaaDoorPSegAllx7
namespace Go.Proofs.YtjphmebhofkhcaaDoor.PSegAll
open Go.RowKit Go.Proofs.YtjphmebhofkhcaaDoorW.PrintWords Go.Proofs.YtjphmebhofkhcaaDoorW.PrintLast Go.Proofs.YtjphmebhofkhcaaDoorW.PrintMore
attribute [local go_sem] max2_int min2_int max_two min_two max_three min_three max_four min_four   -- for this text's walks alone
set_option linter.unusedVariables false
set_option linter.unusedSimpArgs false

/-! ### chancelref05_marks: function 39 -/

/-! ### chancelref01_Letters: function 66 -/
def chancelref01_Letters.l0 : Nat → ByteArray → List Int → Option (List Int)
 | 0, _, _ => none
 | k + 1, x0, x3 => if x0.toList = ([] : List UInt8) then (some x3) else ((chancelref01_size.f k x0).bind fun bt182 => (if x3.length < 35184372088832 then (if 0 ≤ bt182.1 then (if bt182.1 ≤ (x0.size : Int) then (chancelref01_Letters.l0 k (x0.extract (bt182.1 : Int).toNat x0.size) (x3 ++ [bt182.2])) else (none)) else (none)) else (none)))
def chancelref01_Letters.f (k : Nat) (a0 : ByteArray) : Option (List Int) := chancelref01_Letters.l0 k a0 ([] : List Int)
theorem chancelref01_Letters.mono_l : ∀ k, (∀ y0 y1, LeO (chancelref01_Letters.l0 k y0 y1) (chancelref01_Letters.l0 (k + 1) y0 y1))
 | 0 => fun _ _ r h => by simp [chancelref01_Letters.l0] at h
 | k + 1 => by
  have ih0 := chancelref01_Letters.mono_l k
  ·intro y0 y1
   unfold chancelref01_Letters.l0
   repeat' first
   | (with_reducible exact ih0 _ _)
   | (with_reducible exact chancelref01_size.mono _ _)
   | (with_reducible exact LeO.refl _)
   | (with_reducible exact LeO.none _)
   | (with_reducible refine LeO.ite ?_ ?_)
   | (with_reducible refine LeO.bind ?_ (fun _ => ?_))
   | exact ih0 _ _
   | exact chancelref01_size.mono _ _
   | exact LeO.none _
   | refine LeO.ite ?_ ?_
   | refine LeO.bind ?_ (fun _ => ?_)
theorem chancelref01_Letters.mono : ∀ a0 k, LeO (chancelref01_Letters.f k a0) (chancelref01_Letters.f (k + 1) a0) := by
 intro a0 k
 have ih0 := chancelref01_Letters.mono_l k
 unfold chancelref01_Letters.f
 repeat' first
   | (with_reducible exact ih0 _ _)
   | (with_reducible exact chancelref01_size.mono _ _)
   | (with_reducible exact LeO.refl _)
   | (with_reducible exact LeO.none _)
   | (with_reducible refine LeO.ite ?_ ?_)
   | (with_reducible refine LeO.bind ?_ (fun _ => ?_))
   | exact ih0 _ _
   | exact chancelref01_size.mono _ _
   | exact LeO.none _
   | refine LeO.ite ?_ ?_
   | refine LeO.bind ?_ (fun _ => ?_)
set_option maxHeartbeats 8000000 in
set_option maxRecDepth 100000 in
theorem chancelref01_Letters.calls (k : Nat) (a0 : ByteArray) (r : List Int) (w : World) (h : chancelref01_Letters.f k a0 = some r) :
  Calls Tryd.prog 66 #[.string a0] w fun e w' => ∃ v0_ : Value, e = .returned (v0_) ∧ Kd.R (Kd.int .i32) 21 w' w.heap.size (fun _ => True) v0_ r ∧ Below w.heap.size w w' := by
 have HB := Aside0.mk (Below.refl w.heap.size w)
 have H : (chancelref01_Letters.l0 k a0 ([] : List Int)) = some r := h
 clear h
 have H' := Aside0.mk H
 clear H
 go_enter Tryd.func66, Tryd.ntmps66
 go_wp2
 go_loopg [0, 3] k (fun kq v0 v3 w' => ∃ (x0_1 : ByteArray) (x3_1 : List Int), v0 = .string x0_1 ∧ Aside0 (chancelref01_Letters.l0 kq x0_1 x3_1 = some r) ∧ Aside0 (kq ≤ k) ∧ Aside0 (Kd.R (Kd.int .i32) 21 w' w.heap.size (fun _ => True) v3 x3_1) ∧ Aside0 (Below w.heap.size w w'))
 case atStart => exact ⟨(a0), (([] : List Int)), (by first|rfl|(simp;done)|(simp [*];done)), H', ⟨Nat.le_refl _⟩, ⟨by first|exact Kd.R_nil _ _ _ _ _|exact Kd.N_nil _ _ _ _ _|exact Kd.V_nil _ _ _ _ _|exact Kd.Q_nil _ _ _ _ _|exact Kd.S_nil _ _ _ _ _⟩, ⟨by repeat (first|(with_reducible first|exact HB.out|apply below_alloc|apply pw_below_drewN|apply below_drew1)|exact HB.out)⟩⟩
 case round =>
  clear H'
  obtain ⟨x0_1, x3_1, rfl, HA, HK1, HO_3, HB⟩ := hrel
  cases gk with
  | zero => exact absurd HA.out (by simp [chancelref01_Letters.l0])
  | succ k1 =>
   have H := HA.out
   clear HA
   simp only [chancelref01_Letters.l0] at H
   by_cases c2 : x0_1.toList = ([] : List UInt8)
   ·rw [if_pos c2] at H
    have c2b0 : (x0_1.toList == ([] : List UInt8)) = true := beq_iff_eq.mpr c2
    have c2b1 : (x0_1.toList != ([] : List UInt8)) = false := bne_eq_false_iff_eq.mpr c2
    clear c2
    obtain rfl := Option.some.inj H
    go_wp2
    go_ret
    exact ⟨_, by first|rfl|(simp [errW_none, errW_some] <;> rfl)|(simp [*, errW_none, errW_some] <;> rfl), by (with_reducible repeat (first|apply Kd.R_alloc|apply Kd.R_drewN|apply Kd.R_drew));exact HO_3.out, by repeat (first|(with_reducible first|exact HB.out|apply below_alloc|apply pw_below_drewN|apply below_drew1)|exact HB.out)⟩
   ·rw [if_neg c2] at H
    have c2b0 : (x0_1.toList == ([] : List UInt8)) = false := beq_eq_false_iff_ne.mpr c2
    have c2b1 : (x0_1.toList != ([] : List UInt8)) = true := bne_iff_ne.mpr c2
    replace H := Option.bind_eq_some_iff.mp H
    obtain ⟨⟨t182, t183⟩, A30, H⟩ := H
    replace H : (if x3_1.length < 35184372088832 then (if 0 ≤ t182 then (if t182 ≤ (x0_1.size : Int) then (chancelref01_Letters.l0 k1 (x0_1.extract (t182 : Int).toNat x0_1.size) (x3_1 ++ [t183])) else (none)) else (none)) else (none)) = some r := H
    have A3 := Aside0.mk A30
    clear A30
    by_cases c4 : x3_1.length < 35184372088832
    ·rw [if_pos c4] at H
     have LMc4 := Aside0.mk c4
     clear c4
     obtain ⟨y184, hy184⟩ : ∃ y_ : List Int, y_ = (x3_1 ++ [t183]) := ⟨_, rfl⟩
     replace H : (if 0 ≤ t182 then (if t182 ≤ (x0_1.size : Int) then (chancelref01_Letters.l0 k1 (x0_1.extract (t182 : Int).toNat x0_1.size) y184) else (none)) else (none)) = some r:=by first|(rw [hy184];with_reducible exact H)|(have H2_:=(Option.bind_some _ _).symm.trans H;rw [hy184];with_reducible exact H2_)|(have H2_:=(Option.bind_some _ _).symm.trans H;with_reducible exact H2_)|with_reducible exact H|(rw [hy184];exact H)|exact H
     have Ny184 := Aside0.mk hy184
     clear hy184
     by_cases c5 : 0 ≤ t182
     ·rw [if_pos c5] at H
      have c5b0 := eq_true c5
      have c5b1 : decide (0 ≤ t182) = true := decide_eq_true c5
      clear c5
      by_cases c6 : t182 ≤ (x0_1.size : Int)
      ·rw [if_pos c6] at H
       have c6b0 := eq_true c6
       have c6b1 : decide (t182 ≤ (x0_1.size : Int)) = true := decide_eq_true c6
       clear c6
       have H' := Aside0.mk H
       clear H
       go_wp2_with (first|((with_reducible refine gate_callee (f:=65) rfl ?_);refine goesL_ (some 10) rfl rfl Tryd.func65 (by kernel_rfl) rfl #[.string x0_1] rfl (by (try simp only [List.map_toArray, List.map_cons, List.map_nil]);first|done|rfl|(simp only [List.length_drop, List.length_take];rfl)) ?_;(with_reducible refine (chancelref01_size.calls k1 x0_1 t182 t183 _ A3.out).mono ?_);rintro e w' ⟨rfl, ⟨nd, rfl⟩⟩;refine ⟨_, rfl, ?_⟩)|((with_reducible refine gate_builtin (b:=.append) (xs:=#[.tmp 13, .tmp 15]) rfl ?_);at_builtin;refine Kd.R_append (Kd.int .i32) (w0:=w) w.heap.size rfl (.tmp 13) (.tmp 15) 106 21 (.int .i32 0) 4 rfl Tryd.underlying106 info21 rfl (by decide) (by omega) u3 x3_1 t183 [.int .i32 t183] (fun _ => True) (fun _ => False) rfl rfl ?aP (fun _ hk => hk.elim) ?aF ?aO ?aB ?aS ?aL ?_;(case aP => exact rfl);(case aB => exact (by repeat (first|(with_reducible first|exact HB.out|apply below_alloc|apply pw_below_drewN|apply below_drew1)|exact HB.out)));(case aF => exact (fun _ _ => trivial));(case aO => exact (by (with_reducible repeat (first|apply Kd.R_alloc|apply Kd.R_drewN|apply Kd.R_drew));exact HO_3.out));(case aS => exact (below_size (by repeat (first|(with_reducible first|exact HB.out|apply below_alloc|apply pw_below_drewN|apply below_drew1)|exact HB.out))));(case aL => have:=LMc4.out;omega);intro v185 w7 ho hb hg hat;rw [← Ny184.out] at ho;have n0_:=Aside0.mk (hb);have n1_:=Aside0.mk (ho);clear HB;clear HO_3;have HB:=n0_;have HO186:=n1_;clear n0_ n1_;clear ho hb hg hat))
       go_roundg k1
       case measure => have := HK1.out; omega
       case rel => exact ⟨(x0_1.extract (t182 : Int).toNat x0_1.size), (y184), (by first|rfl|(simp;done)|(simp [*];done)), H', ⟨by have:=HK1.out;omega⟩, ⟨by (with_reducible repeat (first|apply Kd.R_alloc|apply Kd.R_drewN|apply Kd.R_drew));exact HO186.out⟩, ⟨by repeat (first|(with_reducible first|exact HB.out|apply below_alloc|apply pw_below_drewN|apply below_drew1)|exact HB.out)⟩⟩
      ·rw [if_neg c6] at H
       exact absurd H (by simp)
     ·rw [if_neg c5] at H
      exact absurd H (by simp)
    ·rw [if_neg c4] at H
     exact absurd H (by simp)

/-! ### chancelref01_Count: function 40 -/
def chancelref01_Count.f (k : Nat) (a0 : ByteArray) : Option (Int) := (chancelref01_Letters.f k a0).bind fun t187 => (some (t187.length : Int))
theorem chancelref01_Count.mono : ∀ a0 k, LeO (chancelref01_Count.f k a0) (chancelref01_Count.f (k + 1) a0) := by
 intro a0 k
 unfold chancelref01_Count.f
 repeat' first
   | (with_reducible exact chancelref01_Letters.mono _ _)
   | (with_reducible exact LeO.refl _)
   | (with_reducible exact LeO.none _)
   | (with_reducible refine LeO.ite ?_ ?_)
   | (with_reducible refine LeO.bind ?_ (fun _ => ?_))
   | exact chancelref01_Letters.mono _ _
   | exact LeO.none _
   | refine LeO.ite ?_ ?_
   | refine LeO.bind ?_ (fun _ => ?_)
set_option maxHeartbeats 8000000 in
set_option maxRecDepth 100000 in
theorem chancelref01_Count.calls (k : Nat) (a0 : ByteArray) (r : Int) (w : World) (h : chancelref01_Count.f k a0 = some r) :
  Calls Tryd.prog 40 #[.string a0] w fun e w' => e = .returned (.int .i64 r) ∧ Below w.heap.size w w' := by
 have HB := Aside0.mk (Below.refl w.heap.size w)
 have H : ((chancelref01_Letters.f k a0).bind fun t187 => (some (t187.length : Int))) = some r := h
 clear h
 replace H := Option.bind_eq_some_iff.mp H
 obtain ⟨t187, A20, H⟩ := H
 replace H : (some (t187.length : Int)) = some r := H
 have A2 := Aside0.mk A20
 clear A20
 obtain rfl := Option.some.inj H
 go_enter Tryd.func40, Tryd.ntmps40
 go_wp2_with (first|((with_reducible refine gate_callee (f:=66) rfl ?_);refine goesL_ (some 4) rfl rfl Tryd.func66 (by kernel_rfl) rfl #[.string a0] rfl (by (try simp only [List.map_toArray, List.map_cons, List.map_nil]);first|done|rfl|(simp only [List.length_drop, List.length_take];rfl)) ?_;(with_reducible refine (chancelref01_Letters.calls k a0 t187 _ A2.out).mono ?_);rintro e w3 ⟨v188, rfl, ho0, hb⟩;refine ⟨_, rfl, ?_⟩;have n0_:=Aside0.mk (Kd.R_lower ho0 (below_size (by repeat (first|(with_reducible first|exact HB.out|apply below_alloc|apply pw_below_drewN|apply below_drew1)|exact HB.out))));have n1_:=Aside0.mk (below_step (by repeat (first|(with_reducible first|exact HB.out|apply below_alloc|apply pw_below_drewN|apply below_drew1)|exact HB.out)) hb);clear HB;have HO189:=n0_;have HB:=n1_;clear n0_ n1_;(try clear hb);(try clear hb2);(try clear hk);(try clear hi);(try clear ho0);obtain ⟨Ao4, co4, eo4⟩:=Kd.R_slice HO189.out;subst eo4))
 go_ret
 exact ⟨by first|rfl|(simp [errW_none, errW_some] <;> rfl)|(simp [*, errW_none, errW_some] <;> rfl), by repeat (first|(with_reducible first|exact HB.out|apply below_alloc|apply pw_below_drewN|apply below_drew1)|exact HB.out)⟩

/-! ### chancelref05_Right: function 12 -/

-- NOT PRINTED: function 3 (chancellaw05_SegmentLoads)

/-! ### marks_Of: function 47 -/
mutual
def marks_Of.l0 : Nat → Int → List (S67) → List (S67) → Int → Int → List (S67) → List (S70) → Option ((List (S67)) × List Int)
 | 0, _, _, _, _, _, _, _ => none
 | k + 1, x1, x6, x13, x14, x15, x202000, x202001 => if x15 < x14 then (if 0 ≤ x15 then (if x15 < (x13.length : Int) then (if ((rd_T67 x13 x15).f0) = x1 then (if x6.length < 5864062014805 then (marks_Of.l0 k x1 (x6 ++ [(⟨(rd_T67 x13 x15).f0, (rd_T67 x13 x15).f1, (rd_T67 x13 x15).f2⟩ : S67)]) x13 x14 (wrap64 (x15 + 1)) x202000 x202001) else (none)) else (marks_Of.l0 k x1 x6 x13 x14 (wrap64 (x15 + 1)) x202000 x202001)) else (none)) else (none)) else (marks_Of.l1 k x1 x6 ([] : List Int) x202001 (x202001.length : Int) 0)
def marks_Of.l1 : Nat → Int → List (S67) → List Int → List (S70) → Int → Int → Option ((List (S67)) × List Int)
 | 0, _, _, _, _, _, _ => none
 | k + 1, x1, x6, x7, x29, x30, x31 => if x31 < x30 then (if 0 ≤ x31 then (if x31 < (x29.length : Int) then (if ((rd_T70 x29 x31).f0) = x1 then (if x7.length < 17592186044416 then (marks_Of.l1 k x1 x6 (x7 ++ [(rd_T70 x29 x31).f1]) x29 x30 (wrap64 (x31 + 1))) else (none)) else (marks_Of.l1 k x1 x6 x7 x29 x30 (wrap64 (x31 + 1)))) else (none)) else (none)) else (some (x6, x7))
end
def marks_Of.f (k : Nat) (l0_0 : List (S67)) (l0_1 : List (S70)) (a1 : Int) : Option ((List (S67)) × List Int) := marks_Of.l0 k a1 ([] : List (S67)) l0_0 (l0_0.length : Int) 0 l0_0 l0_1
theorem marks_Of.mono_l : ∀ k, (∀ y0 y1 y2 y3 y4 y5 y6, LeO (marks_Of.l0 k y0 y1 y2 y3 y4 y5 y6) (marks_Of.l0 (k + 1) y0 y1 y2 y3 y4 y5 y6)) ∧ (∀ y0 y1 y2 y3 y4 y5, LeO (marks_Of.l1 k y0 y1 y2 y3 y4 y5) (marks_Of.l1 (k + 1) y0 y1 y2 y3 y4 y5))
 | 0 => ⟨fun _ _ _ _ _ _ _ r h => by simp [marks_Of.l0] at h, fun _ _ _ _ _ _ r h => by simp [marks_Of.l1] at h⟩
 | k + 1 => by
  obtain ⟨ih0, ih1⟩ := marks_Of.mono_l k
  refine ⟨?_, ?_⟩
  ·intro y0 y1 y2 y3 y4 y5 y6
   unfold marks_Of.l0
   repeat' first
   | (with_reducible exact ih0 _ _ _ _ _ _ _)
   | (with_reducible exact ih1 _ _ _ _ _ _)
   | (with_reducible exact LeO.refl _)
   | (with_reducible exact LeO.none _)
   | (with_reducible refine LeO.ite ?_ ?_)
   | (with_reducible refine LeO.bind ?_ (fun _ => ?_))
   | exact ih0 _ _ _ _ _ _ _
   | exact ih1 _ _ _ _ _ _
   | exact LeO.none _
   | refine LeO.ite ?_ ?_
   | refine LeO.bind ?_ (fun _ => ?_)
  ·intro y0 y1 y2 y3 y4 y5
   unfold marks_Of.l1
   repeat' first
   | (with_reducible exact ih0 _ _ _ _ _ _ _)
   | (with_reducible exact ih1 _ _ _ _ _ _)
   | (with_reducible exact LeO.refl _)
   | (with_reducible exact LeO.none _)
   | (with_reducible refine LeO.ite ?_ ?_)
   | (with_reducible refine LeO.bind ?_ (fun _ => ?_))
   | exact ih0 _ _ _ _ _ _ _
   | exact ih1 _ _ _ _ _ _
   | exact LeO.none _
   | refine LeO.ite ?_ ?_
   | refine LeO.bind ?_ (fun _ => ?_)
theorem marks_Of.mono : ∀ a0 a1 a2 k, LeO (marks_Of.f k a0 a1 a2) (marks_Of.f (k + 1) a0 a1 a2) := by
 intro a0 a1 a2 k
 obtain ⟨ih0, ih1⟩ := marks_Of.mono_l k
 unfold marks_Of.f
 repeat' first
   | (with_reducible exact ih0 _ _ _ _ _ _ _)
   | (with_reducible exact ih1 _ _ _ _ _ _)
   | (with_reducible exact LeO.refl _)
   | (with_reducible exact LeO.none _)
   | (with_reducible refine LeO.ite ?_ ?_)
   | (with_reducible refine LeO.bind ?_ (fun _ => ?_))
   | exact ih0 _ _ _ _ _ _ _
   | exact ih1 _ _ _ _ _ _
   | exact LeO.none _
   | refine LeO.ite ?_ ?_
   | refine LeO.bind ?_ (fun _ => ?_)
set_option maxHeartbeats 8000000 in
set_option maxRecDepth 100000 in
theorem marks_Of.calls (k : Nat) (A0_0 : Option Addr) (c0_0 : Nat) (l0_0 : List (S67)) (A0_1 : Option Addr) (c0_1 : Nat) (l0_1 : List (S70)) (a1 : Int) (r1 : List (S67)) (r2 : List Int) (w : World) (hr0_0 : Kd.C k67 w A0_0 l0_0.length l0_0) (hc0_0 : l0_0.length ≤ c0_0) (hr0_1 : Kd.C k70 w A0_1 l0_1.length l0_1) (hc0_1 : l0_1.length ≤ c0_1) (h : marks_Of.f k l0_0 l0_1 a1 = some (r1, r2)) :
  Calls Tryd.prog 47 #[.agg #[.slice A0_0 l0_0.length c0_0, .slice A0_1 l0_1.length c0_1], .int .i64 a1] w fun e w' => ∃ v0_ v1_ : Value, e = .returned (.tuple #[v0_, v1_]) ∧ Kd.R k67 67 w' w.heap.size (fun _ => True) v0_ r1 ∧ Kd.R (Kd.int .i64) 3 w' w.heap.size (fun _ => True) v1_ r2 ∧ Below w.heap.size w w' := by
 have hu29 := Tryd.underlying29
 have hu67 := Tryd.underlying67
 have hu70 := Tryd.underlying70
 have HR0_0 := Aside0.mk hr0_0
 have HC0_0 := Aside0.mk hc0_0
 clear hr0_0 hc0_0
 have HR0_1 := Aside0.mk hr0_1
 have HC0_1 := Aside0.mk hc0_1
 clear hr0_1 hc0_1
 have HB := Aside0.mk (Below.refl w.heap.size w)
 have H : (marks_Of.l0 k a1 ([] : List (S67)) l0_0 (l0_0.length : Int) 0 l0_0 l0_1) = some (r1, r2) := h
 clear h
 have H' := Aside0.mk H
 clear H
 go_enter Tryd.func47, Tryd.ntmps47
 go_wp2_with (first|((with_reducible refine gate_dst (N:=2) rfl ?_);refine box_event ?hg (N:=2) ?hd (cs:=#[.slice A0_0 l0_0.length c0_0, .slice A0_1 l0_1.length c0_1]) (t:=29) ?hr ?_;(case hd => rfl);(case hg => rfl);(case hr => first|(go_simp;done)|(go_simp;rfl));intro gb201 hg w3 hbox hb;have n0_:=Aside0.mk (below_step (by repeat (first|(with_reducible first|exact HB.out|apply below_alloc|apply pw_below_drewN|apply below_drew1)|exact HB.out)) hb);have n1_:=Aside0.mk (hbox);have n2_:=Aside0.mk ((by rw [hg];exact (below_size (by repeat (first|(with_reducible first|exact HB.out|apply below_alloc|apply pw_below_drewN|apply below_drew1)|exact HB.out))) : w.heap.size ≤ gb201));have n3_:=Aside0.mk ((by rw [hg];exact (below_size (by repeat (first|(with_reducible first|exact HB.out|apply below_alloc|apply pw_below_drewN|apply below_drew1)|exact HB.out))) : w.heap.size ≤ gb201));clear HB;have HB:=n0_;have BK201:=n1_;have GW201:=n2_;have GE201:=n3_;clear n0_ n1_ n2_ n3_;clear hb hbox hg;have hcz4_0 : w3.cell? ⟨gb201, 0, none⟩ = some (.slice A0_0 l0_0.length c0_0):=(blk_cell BK201.out 0).trans rfl;have hcz4_1 : w3.cell? ⟨gb201, 1, none⟩ = some (.slice A0_1 l0_1.length c0_1):=(blk_cell BK201.out 1).trans rfl;have hfz4_0:=blk_frozen BK201.out 0;have hfz4_1:=blk_frozen BK201.out 1))
 go_loopg [6, 15] k (fun kq v6 v15 w' => ∃ (x6_1 : List (S67)) (x15_1 : Int), v15 = .int .i64 x15_1 ∧ Aside0 (marks_Of.l0 kq a1 x6_1 l0_0 (l0_0.length : Int) x15_1 l0_0 l0_1 = some (r1, r2)) ∧ Aside0 (kq ≤ k) ∧ Aside0 (Kd.R k67 67 w' w.heap.size (fun _ => True) v6 x6_1) ∧ Aside0 (w'.heap[gb201]? = some (.cells #[(.slice A0_0 l0_0.length c0_0), (.slice A0_1 l0_1.length c0_1)] 29 (0, 0))) ∧ Aside0 (Below w.heap.size w w'))
 case atStart => exact ⟨(([] : List (S67))), (0), (by first|rfl|(simp;done)|(simp [*];done)), H', ⟨Nat.le_refl _⟩, ⟨by first|exact Kd.R_nil _ _ _ _ _|exact Kd.N_nil _ _ _ _ _|exact Kd.V_nil _ _ _ _ _|exact Kd.Q_nil _ _ _ _ _|exact Kd.S_nil _ _ _ _ _⟩, ⟨by (with_reducible repeat (first|refine blk_drewN ?_ _|refine blk_drew ?_|refine blk_alloc ?_ _));exact BK201.out⟩, ⟨by repeat (first|(with_reducible first|exact HB.out|apply below_alloc|apply pw_below_drewN|apply below_drew1|refine below_set ?_ GE201.out)|exact HB.out)⟩⟩
 case round =>
  clear H'
  try clear p2
  try clear c4
  try clear hcz4_0
  try clear hcz4_1
  try clear hfz4_0
  try clear hfz4_1
  obtain ⟨x6_1, x15_1, rfl, HA, HK1, HO_6, BK201, HB⟩ := hrel
  cases gk with
  | zero => exact absurd HA.out (by simp [marks_Of.l0])
  | succ k1 =>
   have H := HA.out
   clear HA
   simp only [marks_Of.l0] at H
   by_cases c5 : x15_1 < (l0_0.length : Int)
   ·rw [if_pos c5] at H
    have c5b0 : decide (x15_1 < (l0_0.length : Int)) = true := decide_eq_true c5
    clear c5
    by_cases c6 : 0 ≤ x15_1
    ·rw [if_pos c6] at H
     have c6b0 : decide (0 ≤ x15_1) = true := decide_eq_true c6
     clear c6
     by_cases c7 : x15_1 < (l0_0.length : Int)
     ·rw [if_pos c7] at H
      have c7b0 : decide (x15_1 < (l0_0.length : Int)) = true := decide_eq_true c7
      clear c7
      by_cases c8 : ((rd_T67 l0_0 x15_1).f0) = a1
      ·rw [if_pos c8] at H
       have c8b0 : (((rd_T67 l0_0 x15_1).f0) == a1) = true := beq_iff_eq.mpr c8
       have c8b1 : (((rd_T67 l0_0 x15_1).f0) != a1) = false := bne_eq_false_iff_eq.mpr c8
       clear c8
       by_cases c9 : x6_1.length < 5864062014805
       ·rw [if_pos c9] at H
        have LMc9 := Aside0.mk c9
        clear c9
        obtain ⟨y204, hy204⟩ : ∃ y_ : List (S67), y_ = (x6_1 ++ [(⟨(rd_T67 l0_0 x15_1).f0, (rd_T67 l0_0 x15_1).f1, (rd_T67 l0_0 x15_1).f2⟩ : S67)]) := ⟨_, rfl⟩
        replace H : (marks_Of.l0 k1 a1 y204 l0_0 (l0_0.length : Int) (wrap64 (x15_1 + 1)) l0_0 l0_1) = some (r1, r2):=by first|(rw [hy204];with_reducible exact H)|(have H2_:=(Option.bind_some _ _).symm.trans H;rw [hy204];with_reducible exact H2_)|(have H2_:=(Option.bind_some _ _).symm.trans H;with_reducible exact H2_)|with_reducible exact H|(rw [hy204];exact H)|exact H
        have Ny204 := Aside0.mk hy204
        clear hy204
        have H' := Aside0.mk H
        clear H
        have p202 : 0 ≤ (x15_1 : Int):=of_decide_eq_true (by first|(with_reducible assumption)|assumption)
        have q202 : x15_1 < (l0_0.length : Int):=of_decide_eq_true (by first|(with_reducible assumption)|assumption)
        obtain ⟨ad202, e202, hx202_0, hx202_1, hx202_2⟩ := at_T67 HR0_0.out x15_1 p202 q202
        cases e202
        replace hx202_0 := (HB.out.cell (World.block_lt_of_cell? w _ hx202_0)).trans hx202_0
        replace hx202_1 := (HB.out.cell (World.block_lt_of_cell? w _ hx202_1)).trans hx202_1
        replace hx202_2 := (HB.out.cell (World.block_lt_of_cell? w _ hx202_2)).trans hx202_2
        replace p202 := eq_true p202
        replace q202 := eq_true q202
        go_wp2_with (first|((with_reducible refine gate_dst (N:=9) rfl ?_);refine box_event ?hg (N:=9) ?hd (cs:=#[.int .i64 0, .int .i64 0, .int .i64 0]) (t:=67) ?hr ?_;(case hd => rfl);(case hg => rfl);(case hr => first|(go_simp;done)|(go_simp;rfl));intro gb203 hg w10 hbox hb;have n0_:=Aside0.mk (Kd.R_below (Kd.R_elderB (by (with_reducible repeat (first|apply Kd.R_alloc|apply Kd.R_drewN|apply Kd.R_drew));exact HO_6.out) gb203 (Nat.le_of_eq hg.symm)) hb);have n1_:=Aside0.mk (blk_below (g:=gb201) (o:=.cells #[.slice (some ad202) l0_0.length c0_0, .slice A0_1 l0_1.length c0_1] 29 (0, 0)) (by (with_reducible repeat (first|refine blk_drewN ?_ _|refine blk_drew ?_|refine blk_alloc ?_ _));exact BK201.out) hb);have n2_:=Aside0.mk (below_step (by repeat (first|(with_reducible first|exact HB.out|apply below_alloc|apply pw_below_drewN|apply below_drew1|refine below_set ?_ GE201.out)|exact HB.out)) hb);have n3_:=Aside0.mk (hbox);have n4_:=Aside0.mk ((by rw [hg];exact (below_size (by repeat (first|(with_reducible first|exact HB.out|apply below_alloc|apply pw_below_drewN|apply below_drew1|refine below_set ?_ GE201.out)|exact HB.out))) : w.heap.size ≤ gb203));have n5_:=Aside0.mk ((by rw [hg];exact (below_size (by repeat (first|(with_reducible first|exact HB.out|apply below_alloc|apply pw_below_drewN|apply below_drew1|refine below_set ?_ GE201.out)|exact HB.out))) : w.heap.size ≤ gb203));have n6_:=Aside0.mk ((by rw [hg];exact Nat.ne_of_lt (blk_lt (g:=gb201) (o:=.cells #[.slice (some ad202) l0_0.length c0_0, .slice A0_1 l0_1.length c0_1] 29 (0, 0)) (by (with_reducible repeat (first|refine blk_drewN ?_ _|refine blk_drew ?_|refine blk_alloc ?_ _));exact BK201.out)) : gb201 ≠ gb203));have n7_:=Aside0.mk ((by rw [hg];exact Nat.ne_of_gt (blk_lt (g:=gb201) (o:=.cells #[.slice (some ad202) l0_0.length c0_0, .slice A0_1 l0_1.length c0_1] 29 (0, 0)) (by (with_reducible repeat (first|refine blk_drewN ?_ _|refine blk_drew ?_|refine blk_alloc ?_ _));exact BK201.out)) : gb203 ≠ gb201));clear HO_6;clear BK201;clear HB;have HO_6:=n0_;have BK201:=n1_;have HB:=n2_;have BK203:=n3_;have GW203:=n4_;have GE203:=n5_;have NB201_203:=n6_;have NB203_201:=n7_;clear n0_ n1_ n2_ n3_ n4_ n5_ n6_ n7_;clear hb hbox hg;have hnb11:=NB203_201.out;have hnc11:=NB201_203.out;have hcz12_0 : w10.cell? ⟨gb203, 0, none⟩ = some (.int .i64 0):=(blk_cell BK203.out 0).trans rfl;have hcz12_1 : w10.cell? ⟨gb203, 1, none⟩ = some (.int .i64 0):=(blk_cell BK203.out 1).trans rfl;have hcz12_2 : w10.cell? ⟨gb203, 2, none⟩ = some (.int .i64 0):=(blk_cell BK203.out 2).trans rfl;have hfz12_0:=blk_frozen BK203.out 0;have hfz12_1:=blk_frozen BK203.out 1;have hfz12_2:=blk_frozen BK203.out 2)|((with_reducible refine gate_builtin (b:=.append) (xs:=#[.tmp 23, .tmp 25]) rfl ?_);at_builtin;refine Kd.R_append k67 (w0:=w) w.heap.size rfl (.tmp 23) (.tmp 25) 22 67 (.agg #[(.int .i64 0), (.int .i64 0), (.int .i64 0)]) 24 rfl Tryd.underlying22 info67 rfl (by decide) (by omega) u6 x6_1 (⟨(rd_T67 l0_0 x15_1).f0, (rd_T67 l0_0 x15_1).f1, (rd_T67 l0_0 x15_1).f2⟩ : S67) [.int .i64 ((rd_T67 l0_0 x15_1).f0), .int .i64 ((rd_T67 l0_0 x15_1).f1), .int .i64 ((rd_T67 l0_0 x15_1).f2)] (fun k_ => k_ ≠ gb203) (fun _ => False) rfl (by first|(go_simp;done)|(go_simp;rfl)) ?aP (fun _ hk => hk.elim) ?aF ?aO ?aB ?aS ?aL ?_;(case aP => exact k67_mkM _ _ _ (⟨(rd_T67 l0_0 x15_1).f0, (rd_T67 l0_0 x15_1).f1, (rd_T67 l0_0 x15_1).f2⟩ : S67));(case aB => exact (by repeat (first|(with_reducible first|exact HB.out|apply below_alloc|apply pw_below_drewN|apply below_drew1|refine below_set ?_ GE201.out|refine below_set ?_ GE203.out)|exact HB.out)));(case aF => exact (fun k_ hk => Kd.freshB (g:=gb203) (o:=.cells #[.int .i64 ((rd_T67 l0_0 x15_1).f0), .int .i64 ((rd_T67 l0_0 x15_1).f1), .int .i64 ((rd_T67 l0_0 x15_1).f2)] 67 (0, 0)) (by (with_reducible repeat (first|refine blk_drewN ?_ _|refine blk_drew ?_|refine blk_alloc ?_ _));refine blk_put (cs:=#[.int .i64 ((rd_T67 l0_0 x15_1).f0), .int .i64 ((rd_T67 l0_0 x15_1).f1), .int .i64 0]) ?_ 2 _ rfl;(with_reducible repeat (first|refine blk_drewN ?_ _|refine blk_drew ?_|refine blk_alloc ?_ _));refine blk_put (cs:=#[.int .i64 ((rd_T67 l0_0 x15_1).f0), .int .i64 0, .int .i64 0]) ?_ 1 _ rfl;(with_reducible repeat (first|refine blk_drewN ?_ _|refine blk_drew ?_|refine blk_alloc ?_ _));refine blk_put (cs:=#[.int .i64 0, .int .i64 0, .int .i64 0]) ?_ 0 _ rfl;(with_reducible repeat (first|refine blk_drewN ?_ _|refine blk_drew ?_|refine blk_alloc ?_ _));exact BK203.out) k_ hk));(case aO => exact (by (with_reducible repeat (first|apply Kd.R_alloc|apply Kd.R_drewN|apply Kd.R_drew));exact Kd.R_mono (Kd.R_far (p:=⟨gb203, 2, none⟩) (Kd.R_far (p:=⟨gb203, 1, none⟩) (Kd.R_far (p:=⟨gb203, 0, none⟩) (Kd.R_mono HO_6.out (fun k_ hk => (⟨hk, hk.2⟩ : _ ∧ k_ ≠ gb203))) (fun _ hk => hk.2) (.int .i64 ((rd_T67 l0_0 x15_1).f0))) (fun _ hk => hk.2) (.int .i64 ((rd_T67 l0_0 x15_1).f1))) (fun _ hk => hk.2) (.int .i64 ((rd_T67 l0_0 x15_1).f2))) (fun _ hk => hk.1.2)));(case aS => exact (below_size (by repeat (first|(with_reducible first|exact HB.out|apply below_alloc|apply pw_below_drewN|apply below_drew1|refine below_set ?_ GE201.out|refine below_set ?_ GE203.out)|exact HB.out))));(case aL => have:=LMc9.out;omega);intro v205 w13 ho hb hg hat;rw [← Ny204.out] at ho;have n0_:=Aside0.mk (blk_grown (g:=gb201) (o:=.cells #[.slice (some ad202) l0_0.length c0_0, .slice A0_1 l0_1.length c0_1] 29 (0, 0)) (by (with_reducible repeat (first|refine blk_drewN ?_ _|refine blk_drew ?_|refine blk_alloc ?_ _));refine blk_far ?_ NB201_203.out _;(with_reducible repeat (first|refine blk_drewN ?_ _|refine blk_drew ?_|refine blk_alloc ?_ _));refine blk_far ?_ NB201_203.out _;(with_reducible repeat (first|refine blk_drewN ?_ _|refine blk_drew ?_|refine blk_alloc ?_ _));refine blk_far ?_ NB201_203.out _;(with_reducible repeat (first|refine blk_drewN ?_ _|refine blk_drew ?_|refine blk_alloc ?_ _));exact BK201.out) hg (Kd.R_ne HO_6.out BK201.out (by decide)));have n1_:=Aside0.mk (blk_grown (g:=gb203) (o:=.cells #[.int .i64 ((rd_T67 l0_0 x15_1).f0), .int .i64 ((rd_T67 l0_0 x15_1).f1), .int .i64 ((rd_T67 l0_0 x15_1).f2)] 67 (0, 0)) (by (with_reducible repeat (first|refine blk_drewN ?_ _|refine blk_drew ?_|refine blk_alloc ?_ _));refine blk_put (cs:=#[.int .i64 ((rd_T67 l0_0 x15_1).f0), .int .i64 ((rd_T67 l0_0 x15_1).f1), .int .i64 0]) ?_ 2 _ rfl;(with_reducible repeat (first|refine blk_drewN ?_ _|refine blk_drew ?_|refine blk_alloc ?_ _));refine blk_put (cs:=#[.int .i64 ((rd_T67 l0_0 x15_1).f0), .int .i64 0, .int .i64 0]) ?_ 1 _ rfl;(with_reducible repeat (first|refine blk_drewN ?_ _|refine blk_drew ?_|refine blk_alloc ?_ _));refine blk_put (cs:=#[.int .i64 0, .int .i64 0, .int .i64 0]) ?_ 0 _ rfl;(with_reducible repeat (first|refine blk_drewN ?_ _|refine blk_drew ?_|refine blk_alloc ?_ _));exact BK203.out) hg (Kd.R_away HO_6.out (fun _ hk => hk.2)));have n2_:=Aside0.mk (hb);have n3_:=Aside0.mk (ho);clear BK201;clear BK203;clear HB;clear HO_6;have BK201:=n0_;have BK203:=n1_;have HB:=n2_;have HO206:=n3_;clear n0_ n1_ n2_ n3_;clear ho hb hg hat))
        go_roundg k1
        case measure => have := HK1.out; omega
        case rel => exact ⟨(y204), (wrap64 (x15_1 + 1)), (by first|rfl|(simp;done)|(simp [*];done)), H', ⟨by have:=HK1.out;omega⟩, ⟨by (with_reducible repeat (first|apply Kd.R_alloc|apply Kd.R_drewN|apply Kd.R_drew));exact Kd.R_mono HO206.out (fun _ hk => trivial)⟩, ⟨by (with_reducible repeat (first|refine blk_drewN ?_ _|refine blk_drew ?_|refine blk_alloc ?_ _));exact BK201.out⟩, ⟨by repeat (first|(with_reducible first|exact HB.out|apply below_alloc|apply pw_below_drewN|apply below_drew1|refine below_set ?_ GE201.out|refine below_set ?_ GE203.out)|exact HB.out)⟩⟩
       ·rw [if_neg c9] at H
        exact absurd H (by simp)
      ·rw [if_neg c8] at H
       have c8b0 : (((rd_T67 l0_0 x15_1).f0) == a1) = false := beq_eq_false_iff_ne.mpr c8
       have c8b1 : (((rd_T67 l0_0 x15_1).f0) != a1) = true := bne_iff_ne.mpr c8
       have H' := Aside0.mk H
       clear H
       have p202 : 0 ≤ (x15_1 : Int):=of_decide_eq_true (by first|(with_reducible assumption)|assumption)
       have q202 : x15_1 < (l0_0.length : Int):=of_decide_eq_true (by first|(with_reducible assumption)|assumption)
       obtain ⟨ad202, e202, hx202_0, hx202_1, hx202_2⟩ := at_T67 HR0_0.out x15_1 p202 q202
       cases e202
       replace hx202_0 := (HB.out.cell (World.block_lt_of_cell? w _ hx202_0)).trans hx202_0
       replace hx202_1 := (HB.out.cell (World.block_lt_of_cell? w _ hx202_1)).trans hx202_1
       replace hx202_2 := (HB.out.cell (World.block_lt_of_cell? w _ hx202_2)).trans hx202_2
       replace p202 := eq_true p202
       replace q202 := eq_true q202
       go_wp2_with (first|((with_reducible refine gate_dst (N:=9) rfl ?_);refine box_event ?hg (N:=9) ?hd (cs:=#[.int .i64 0, .int .i64 0, .int .i64 0]) (t:=67) ?hr ?_;(case hd => rfl);(case hg => rfl);(case hr => first|(go_simp;done)|(go_simp;rfl));intro gb203 hg w14 hbox hb;have n0_:=Aside0.mk (Kd.R_below (Kd.R_elderB (by (with_reducible repeat (first|apply Kd.R_alloc|apply Kd.R_drewN|apply Kd.R_drew));exact HO_6.out) gb203 (Nat.le_of_eq hg.symm)) hb);have n1_:=Aside0.mk (blk_below (g:=gb201) (o:=.cells #[.slice (some ad202) l0_0.length c0_0, .slice A0_1 l0_1.length c0_1] 29 (0, 0)) (by (with_reducible repeat (first|refine blk_drewN ?_ _|refine blk_drew ?_|refine blk_alloc ?_ _));exact BK201.out) hb);have n2_:=Aside0.mk (below_step (by repeat (first|(with_reducible first|exact HB.out|apply below_alloc|apply pw_below_drewN|apply below_drew1|refine below_set ?_ GE201.out)|exact HB.out)) hb);have n3_:=Aside0.mk (hbox);have n4_:=Aside0.mk ((by rw [hg];exact (below_size (by repeat (first|(with_reducible first|exact HB.out|apply below_alloc|apply pw_below_drewN|apply below_drew1|refine below_set ?_ GE201.out)|exact HB.out))) : w.heap.size ≤ gb203));have n5_:=Aside0.mk ((by rw [hg];exact (below_size (by repeat (first|(with_reducible first|exact HB.out|apply below_alloc|apply pw_below_drewN|apply below_drew1|refine below_set ?_ GE201.out)|exact HB.out))) : w.heap.size ≤ gb203));have n6_:=Aside0.mk ((by rw [hg];exact Nat.ne_of_lt (blk_lt (g:=gb201) (o:=.cells #[.slice (some ad202) l0_0.length c0_0, .slice A0_1 l0_1.length c0_1] 29 (0, 0)) (by (with_reducible repeat (first|refine blk_drewN ?_ _|refine blk_drew ?_|refine blk_alloc ?_ _));exact BK201.out)) : gb201 ≠ gb203));have n7_:=Aside0.mk ((by rw [hg];exact Nat.ne_of_gt (blk_lt (g:=gb201) (o:=.cells #[.slice (some ad202) l0_0.length c0_0, .slice A0_1 l0_1.length c0_1] 29 (0, 0)) (by (with_reducible repeat (first|refine blk_drewN ?_ _|refine blk_drew ?_|refine blk_alloc ?_ _));exact BK201.out)) : gb203 ≠ gb201));clear HO_6;clear BK201;clear HB;have HO_6:=n0_;have BK201:=n1_;have HB:=n2_;have BK203:=n3_;have GW203:=n4_;have GE203:=n5_;have NB201_203:=n6_;have NB203_201:=n7_;clear n0_ n1_ n2_ n3_ n4_ n5_ n6_ n7_;clear hb hbox hg;have hnb15:=NB203_201.out;have hnc15:=NB201_203.out;have hcz16_0 : w14.cell? ⟨gb203, 0, none⟩ = some (.int .i64 0):=(blk_cell BK203.out 0).trans rfl;have hcz16_1 : w14.cell? ⟨gb203, 1, none⟩ = some (.int .i64 0):=(blk_cell BK203.out 1).trans rfl;have hcz16_2 : w14.cell? ⟨gb203, 2, none⟩ = some (.int .i64 0):=(blk_cell BK203.out 2).trans rfl;have hfz16_0:=blk_frozen BK203.out 0;have hfz16_1:=blk_frozen BK203.out 1;have hfz16_2:=blk_frozen BK203.out 2))
       go_roundg k1
       case measure => have := HK1.out; omega
       case rel => exact ⟨(x6_1), (wrap64 (x15_1 + 1)), (by first|rfl|(simp;done)|(simp [*];done)), H', ⟨by have:=HK1.out;omega⟩, ⟨by (with_reducible repeat (first|apply Kd.R_alloc|apply Kd.R_drewN|apply Kd.R_drew));exact Kd.R_mono (Kd.R_far (p:=⟨gb203, 2, none⟩) (Kd.R_far (p:=⟨gb203, 1, none⟩) (Kd.R_far (p:=⟨gb203, 0, none⟩) (Kd.R_mono HO_6.out (fun k_ hk => (⟨hk, hk.2⟩ : _ ∧ k_ ≠ gb203))) (fun _ hk => hk.2) (.int .i64 ((rd_T67 l0_0 x15_1).f0))) (fun _ hk => hk.2) (.int .i64 ((rd_T67 l0_0 x15_1).f1))) (fun _ hk => hk.2) (.int .i64 ((rd_T67 l0_0 x15_1).f2))) (fun _ hk => trivial)⟩, ⟨by (with_reducible repeat (first|refine blk_drewN ?_ _|refine blk_drew ?_|refine blk_alloc ?_ _));refine blk_far ?_ NB201_203.out _;(with_reducible repeat (first|refine blk_drewN ?_ _|refine blk_drew ?_|refine blk_alloc ?_ _));refine blk_far ?_ NB201_203.out _;(with_reducible repeat (first|refine blk_drewN ?_ _|refine blk_drew ?_|refine blk_alloc ?_ _));refine blk_far ?_ NB201_203.out _;(with_reducible repeat (first|refine blk_drewN ?_ _|refine blk_drew ?_|refine blk_alloc ?_ _));exact BK201.out⟩, ⟨by repeat (first|(with_reducible first|exact HB.out|apply below_alloc|apply pw_below_drewN|apply below_drew1|refine below_set ?_ GE201.out|refine below_set ?_ GE203.out)|exact HB.out)⟩⟩
     ·rw [if_neg c7] at H
      exact absurd H (by simp)
    ·rw [if_neg c6] at H
     exact absurd H (by simp)
   ·rw [if_neg c5] at H
    have c5b0 : decide (x15_1 < (l0_0.length : Int)) = false := decide_eq_false c5
    clear c5
    have H' := Aside0.mk H
    clear H
    have hcz17_0 : wr.cell? ⟨gb201, 0, none⟩ = some (.slice A0_0 l0_0.length c0_0) := (blk_cell BK201.out 0).trans rfl
    have hcz17_1 : wr.cell? ⟨gb201, 1, none⟩ = some (.slice A0_1 l0_1.length c0_1) := (blk_cell BK201.out 1).trans rfl
    have hfz17_0 := blk_frozen BK201.out 0
    have hfz17_1 := blk_frozen BK201.out 1
    go_wp2
    go_loopg [7, 31] k1 (fun kq v7 v31 w' => ∃ (x7_2 : List Int) (x31_2 : Int), v31 = .int .i64 x31_2 ∧ Aside0 (marks_Of.l1 kq a1 x6_1 x7_2 l0_1 (l0_1.length : Int) x31_2 = some (r1, r2)) ∧ Aside0 (kq ≤ k1) ∧ Aside0 (Kd.R k67 67 w' w.heap.size (fun _ => True) u6 x6_1) ∧ Aside0 (Kd.R (Kd.int .i64) 3 w' w.heap.size (fun _ => True) v7 x7_2) ∧ Aside0 (w'.heap[gb201]? = some (.cells #[(.slice A0_0 l0_0.length c0_0), (.slice A0_1 l0_1.length c0_1)] 29 (0, 0))) ∧ Aside0 (Below w.heap.size w w'))
    case atStart => exact ⟨(([] : List Int)), (0), (by first|rfl|(simp;done)|(simp [*];done)), H', ⟨Nat.le_refl _⟩, ⟨by (with_reducible repeat (first|apply Kd.R_alloc|apply Kd.R_drewN|apply Kd.R_drew));exact HO_6.out⟩, ⟨by first|exact Kd.R_nil _ _ _ _ _|exact Kd.N_nil _ _ _ _ _|exact Kd.V_nil _ _ _ _ _|exact Kd.Q_nil _ _ _ _ _|exact Kd.S_nil _ _ _ _ _⟩, ⟨by (with_reducible repeat (first|refine blk_drewN ?_ _|refine blk_drew ?_|refine blk_alloc ?_ _));exact BK201.out⟩, ⟨by repeat (first|(with_reducible first|exact HB.out|apply below_alloc|apply pw_below_drewN|apply below_drew1|refine below_set ?_ GE201.out)|exact HB.out)⟩⟩
    case round =>
     clear H'
     try clear c1
     try clear p2
     try clear q2
     try clear hx2
     try clear c4
     try clear c5
     try clear c5b0
     try clear c6
     try clear c6b0
     try clear p6
     try clear c7
     try clear c7b0
     try clear c8
     try clear c8b0
     try clear c8b1
     try clear c9
     try clear c11
     try clear c15
     try clear hcz12_0
     try clear hcz12_1
     try clear hcz12_2
     try clear hcz16_0
     try clear hcz16_1
     try clear hcz16_2
     try clear hcz17_0
     try clear hcz17_1
     try clear hcz4_0
     try clear hcz4_1
     try clear hfz12_0
     try clear hfz12_1
     try clear hfz12_2
     try clear hfz16_0
     try clear hfz16_1
     try clear hfz16_2
     try clear hfz17_0
     try clear hfz17_1
     try clear hfz4_0
     try clear hfz4_1
     try clear hx202_0
     try clear hx202_1
     try clear hx202_2
     try clear p2
     try clear p202
     try clear q202
     obtain ⟨x7_2, x31_2, rfl, HA, HK2, HO_6, HO_7, BK201, HB⟩ := hrel
     cases gk with
     | zero => exact absurd HA.out (by simp [marks_Of.l1])
     | succ k2 =>
      have H := HA.out
      clear HA
      simp only [marks_Of.l1] at H
      by_cases c18 : x31_2 < (l0_1.length : Int)
      ·rw [if_pos c18] at H
       have c18b0 : decide (x31_2 < (l0_1.length : Int)) = true := decide_eq_true c18
       clear c18
       by_cases c19 : 0 ≤ x31_2
       ·rw [if_pos c19] at H
        have c19b0 : decide (0 ≤ x31_2) = true := decide_eq_true c19
        clear c19
        by_cases c20 : x31_2 < (l0_1.length : Int)
        ·rw [if_pos c20] at H
         have c20b0 : decide (x31_2 < (l0_1.length : Int)) = true := decide_eq_true c20
         clear c20
         by_cases c21 : ((rd_T70 l0_1 x31_2).f0) = a1
         ·rw [if_pos c21] at H
          have c21b0 : (((rd_T70 l0_1 x31_2).f0) == a1) = true := beq_iff_eq.mpr c21
          have c21b1 : (((rd_T70 l0_1 x31_2).f0) != a1) = false := bne_eq_false_iff_eq.mpr c21
          clear c21
          by_cases c22 : x7_2.length < 17592186044416
          ·rw [if_pos c22] at H
           have LMc22 := Aside0.mk c22
           clear c22
           obtain ⟨y209, hy209⟩ : ∃ y_ : List Int, y_ = (x7_2 ++ [(rd_T70 l0_1 x31_2).f1]) := ⟨_, rfl⟩
           replace H : (marks_Of.l1 k2 a1 x6_1 y209 l0_1 (l0_1.length : Int) (wrap64 (x31_2 + 1))) = some (r1, r2):=by first|(rw [hy209];with_reducible exact H)|(have H2_:=(Option.bind_some _ _).symm.trans H;rw [hy209];with_reducible exact H2_)|(have H2_:=(Option.bind_some _ _).symm.trans H;with_reducible exact H2_)|with_reducible exact H|(rw [hy209];exact H)|exact H
           have Ny209 := Aside0.mk hy209
           clear hy209
           have H' := Aside0.mk H
           clear H
           have p207 : 0 ≤ (x31_2 : Int):=of_decide_eq_true (by first|(with_reducible assumption)|assumption)
           have q207 : x31_2 < (l0_1.length : Int):=of_decide_eq_true (by first|(with_reducible assumption)|assumption)
           obtain ⟨ad207, e207, hx207_0, hx207_1⟩ := at_T70 HR0_1.out x31_2 p207 q207
           cases e207
           replace hx207_0 := (HB.out.cell (World.block_lt_of_cell? w _ hx207_0)).trans hx207_0
           replace hx207_1 := (HB.out.cell (World.block_lt_of_cell? w _ hx207_1)).trans hx207_1
           replace p207 := eq_true p207
           replace q207 := eq_true q207
           go_wp2_with (first|((with_reducible refine gate_dst (N:=11) rfl ?_);refine box_event ?hg (N:=11) ?hd (cs:=#[.int .i64 0, .int .i64 0]) (t:=70) ?hr ?_;(case hd => rfl);(case hg => rfl);(case hr => first|(go_simp;done)|(go_simp;rfl));intro gb208 hg w23 hbox hb;have n0_:=Aside0.mk (Kd.R_below (by (with_reducible repeat (first|apply Kd.R_alloc|apply Kd.R_drewN|apply Kd.R_drew));exact HO_6.out) hb);have n1_:=Aside0.mk (Kd.R_below (by (with_reducible repeat (first|apply Kd.R_alloc|apply Kd.R_drewN|apply Kd.R_drew));exact HO_7.out) hb);have n2_:=Aside0.mk (blk_below (g:=gb201) (o:=.cells #[.slice A0_0 l0_0.length c0_0, .slice (some ad207) l0_1.length c0_1] 29 (0, 0)) (by (with_reducible repeat (first|refine blk_drewN ?_ _|refine blk_drew ?_|refine blk_alloc ?_ _));exact BK201.out) hb);have n3_:=Aside0.mk (below_step (by repeat (first|(with_reducible first|exact HB.out|apply below_alloc|apply pw_below_drewN|apply below_drew1|refine below_set ?_ GE201.out)|exact HB.out)) hb);have n4_:=Aside0.mk (hbox);have n5_:=Aside0.mk ((by rw [hg];exact (below_size (by repeat (first|(with_reducible first|exact HB.out|apply below_alloc|apply pw_below_drewN|apply below_drew1|refine below_set ?_ GE201.out)|exact HB.out))) : w.heap.size ≤ gb208));have n6_:=Aside0.mk ((by rw [hg];exact (below_size (by repeat (first|(with_reducible first|exact HB.out|apply below_alloc|apply pw_below_drewN|apply below_drew1|refine below_set ?_ GE201.out)|exact HB.out))) : w.heap.size ≤ gb208));have n7_:=Aside0.mk ((by rw [hg];exact Nat.ne_of_lt (blk_lt (g:=gb201) (o:=.cells #[.slice A0_0 l0_0.length c0_0, .slice (some ad207) l0_1.length c0_1] 29 (0, 0)) (by (with_reducible repeat (first|refine blk_drewN ?_ _|refine blk_drew ?_|refine blk_alloc ?_ _));exact BK201.out)) : gb201 ≠ gb208));have n8_:=Aside0.mk ((by rw [hg];exact Nat.ne_of_gt (blk_lt (g:=gb201) (o:=.cells #[.slice A0_0 l0_0.length c0_0, .slice (some ad207) l0_1.length c0_1] 29 (0, 0)) (by (with_reducible repeat (first|refine blk_drewN ?_ _|refine blk_drew ?_|refine blk_alloc ?_ _));exact BK201.out)) : gb208 ≠ gb201));clear HO_6;clear HO_7;clear BK201;clear HB;have HO_6:=n0_;have HO_7:=n1_;have BK201:=n2_;have HB:=n3_;have BK208:=n4_;have GW208:=n5_;have GE208:=n6_;have NB201_208:=n7_;have NB208_201:=n8_;clear n0_ n1_ n2_ n3_ n4_ n5_ n6_ n7_ n8_;clear hb hbox hg;have hnb24:=NB208_201.out;have hnc24:=NB201_208.out;have hcz25_0 : w23.cell? ⟨gb208, 0, none⟩ = some (.int .i64 0):=(blk_cell BK208.out 0).trans rfl;have hcz25_1 : w23.cell? ⟨gb208, 1, none⟩ = some (.int .i64 0):=(blk_cell BK208.out 1).trans rfl;have hfz25_0:=blk_frozen BK208.out 0;have hfz25_1:=blk_frozen BK208.out 1)|((with_reducible refine gate_builtin (b:=.append) (xs:=#[.tmp 39, .tmp 42]) rfl ?_);at_builtin;refine Kd.R_append (Kd.int .i64) (w0:=w) w.heap.size rfl (.tmp 39) (.tmp 42) 83 3 (.int .i64 0) 8 rfl Tryd.underlying83 info3 rfl (by decide) (by omega) u7 x7_2 ((rd_T70 l0_1 x31_2).f1) [.int .i64 ((rd_T70 l0_1 x31_2).f1)] (fun _ => True) (fun _ => False) rfl (by first|(go_simp;done)|(go_simp;rfl)) ?aP (fun _ hk => hk.elim) ?aF ?aO ?aB ?aS ?aL ?_;(case aP => exact rfl);(case aB => exact (by repeat (first|(with_reducible first|exact HB.out|apply below_alloc|apply pw_below_drewN|apply below_drew1|refine below_set ?_ GE201.out|refine below_set ?_ GE208.out)|exact HB.out)));(case aF => exact (fun _ _ => trivial));(case aO => exact (by (with_reducible repeat (first|apply Kd.R_alloc|apply Kd.R_drewN|apply Kd.R_drew));exact Kd.R_mono (Kd.R_far (p:=⟨gb208, 1, none⟩) (Kd.R_far (p:=⟨gb208, 0, none⟩) (Kd.R_types HO_7.out BK208.out (by decide)) (fun _ hk => hk.2) (.int .i64 ((rd_T70 l0_1 x31_2).f0))) (fun _ hk => hk.2) (.int .i64 ((rd_T70 l0_1 x31_2).f1))) (fun _ hk => trivial)));(case aS => exact (below_size (by repeat (first|(with_reducible first|exact HB.out|apply below_alloc|apply pw_below_drewN|apply below_drew1|refine below_set ?_ GE201.out|refine below_set ?_ GE208.out)|exact HB.out))));(case aL => have:=LMc22.out;omega);intro v210 w26 ho hb hg hat;rw [← Ny209.out] at ho;have n0_:=Aside0.mk (Kd.R_over' (by (with_reducible repeat (first|apply Kd.R_alloc|apply Kd.R_drewN|apply Kd.R_drew));exact (Kd.R_mono (Kd.R_far (p:=⟨gb208, 1, none⟩) (Kd.R_far (p:=⟨gb208, 0, none⟩) (Kd.R_types HO_6.out BK208.out (by decide)) (fun _ hk => hk.2) (.int .i64 ((rd_T70 l0_1 x31_2).f0))) (fun _ hk => hk.2) (.int .i64 ((rd_T70 l0_1 x31_2).f1))) (fun _ h_ => h_.1))) (Kd.R_typed (by (with_reducible repeat (first|apply Kd.R_alloc|apply Kd.R_drewN|apply Kd.R_drew));exact (Kd.R_mono (Kd.R_far (p:=⟨gb208, 1, none⟩) (Kd.R_far (p:=⟨gb208, 0, none⟩) (Kd.R_types HO_7.out BK208.out (by decide)) (fun _ hk => hk.2) (.int .i64 ((rd_T70 l0_1 x31_2).f0))) (fun _ hk => hk.2) (.int .i64 ((rd_T70 l0_1 x31_2).f1))) (fun _ h_ => h_.1)))) (by decide) hg);have n1_:=Aside0.mk (blk_grown (g:=gb201) (o:=.cells #[.slice A0_0 l0_0.length c0_0, .slice (some ad207) l0_1.length c0_1] 29 (0, 0)) (by (with_reducible repeat (first|refine blk_drewN ?_ _|refine blk_drew ?_|refine blk_alloc ?_ _));refine blk_far ?_ NB201_208.out _;(with_reducible repeat (first|refine blk_drewN ?_ _|refine blk_drew ?_|refine blk_alloc ?_ _));refine blk_far ?_ NB201_208.out _;(with_reducible repeat (first|refine blk_drewN ?_ _|refine blk_drew ?_|refine blk_alloc ?_ _));exact BK201.out) hg (Kd.R_ne HO_7.out BK201.out (by decide)));have n2_:=Aside0.mk (blk_grown (g:=gb208) (o:=.cells #[.int .i64 ((rd_T70 l0_1 x31_2).f0), .int .i64 ((rd_T70 l0_1 x31_2).f1)] 70 (0, 0)) (by (with_reducible repeat (first|refine blk_drewN ?_ _|refine blk_drew ?_|refine blk_alloc ?_ _));refine blk_put (cs:=#[.int .i64 ((rd_T70 l0_1 x31_2).f0), .int .i64 0]) ?_ 1 _ rfl;(with_reducible repeat (first|refine blk_drewN ?_ _|refine blk_drew ?_|refine blk_alloc ?_ _));refine blk_put (cs:=#[.int .i64 0, .int .i64 0]) ?_ 0 _ rfl;(with_reducible repeat (first|refine blk_drewN ?_ _|refine blk_drew ?_|refine blk_alloc ?_ _));exact BK208.out) hg (Kd.R_ne HO_7.out BK208.out (by decide)));have n3_:=Aside0.mk (hb);have n4_:=Aside0.mk (ho);clear HO_6;clear BK201;clear BK208;clear HB;clear HO_7;have HO_6:=n0_;have BK201:=n1_;have BK208:=n2_;have HB:=n3_;have HO211:=n4_;clear n0_ n1_ n2_ n3_ n4_;clear ho hb hg hat))
           go_roundg k2
           case measure => have := HK1.out; have := HK2.out; omega
           case rel => exact ⟨(y209), (wrap64 (x31_2 + 1)), (by first|rfl|(simp;done)|(simp [*];done)), H', ⟨by have:=HK1.out;have:=HK2.out;omega⟩, ⟨by (with_reducible repeat (first|apply Kd.R_alloc|apply Kd.R_drewN|apply Kd.R_drew));exact HO_6.out⟩, ⟨by (with_reducible repeat (first|apply Kd.R_alloc|apply Kd.R_drewN|apply Kd.R_drew));exact HO211.out⟩, ⟨by (with_reducible repeat (first|refine blk_drewN ?_ _|refine blk_drew ?_|refine blk_alloc ?_ _));exact BK201.out⟩, ⟨by repeat (first|(with_reducible first|exact HB.out|apply below_alloc|apply pw_below_drewN|apply below_drew1|refine below_set ?_ GE201.out|refine below_set ?_ GE208.out)|exact HB.out)⟩⟩
          ·rw [if_neg c22] at H
           exact absurd H (by simp)
         ·rw [if_neg c21] at H
          have c21b0 : (((rd_T70 l0_1 x31_2).f0) == a1) = false := beq_eq_false_iff_ne.mpr c21
          have c21b1 : (((rd_T70 l0_1 x31_2).f0) != a1) = true := bne_iff_ne.mpr c21
          have H' := Aside0.mk H
          clear H
          have p207 : 0 ≤ (x31_2 : Int):=of_decide_eq_true (by first|(with_reducible assumption)|assumption)
          have q207 : x31_2 < (l0_1.length : Int):=of_decide_eq_true (by first|(with_reducible assumption)|assumption)
          obtain ⟨ad207, e207, hx207_0, hx207_1⟩ := at_T70 HR0_1.out x31_2 p207 q207
          cases e207
          replace hx207_0 := (HB.out.cell (World.block_lt_of_cell? w _ hx207_0)).trans hx207_0
          replace hx207_1 := (HB.out.cell (World.block_lt_of_cell? w _ hx207_1)).trans hx207_1
          replace p207 := eq_true p207
          replace q207 := eq_true q207
          go_wp2_with (first|((with_reducible refine gate_dst (N:=11) rfl ?_);refine box_event ?hg (N:=11) ?hd (cs:=#[.int .i64 0, .int .i64 0]) (t:=70) ?hr ?_;(case hd => rfl);(case hg => rfl);(case hr => first|(go_simp;done)|(go_simp;rfl));intro gb208 hg w27 hbox hb;have n0_:=Aside0.mk (Kd.R_below (by (with_reducible repeat (first|apply Kd.R_alloc|apply Kd.R_drewN|apply Kd.R_drew));exact HO_6.out) hb);have n1_:=Aside0.mk (Kd.R_below (by (with_reducible repeat (first|apply Kd.R_alloc|apply Kd.R_drewN|apply Kd.R_drew));exact HO_7.out) hb);have n2_:=Aside0.mk (blk_below (g:=gb201) (o:=.cells #[.slice A0_0 l0_0.length c0_0, .slice (some ad207) l0_1.length c0_1] 29 (0, 0)) (by (with_reducible repeat (first|refine blk_drewN ?_ _|refine blk_drew ?_|refine blk_alloc ?_ _));exact BK201.out) hb);have n3_:=Aside0.mk (below_step (by repeat (first|(with_reducible first|exact HB.out|apply below_alloc|apply pw_below_drewN|apply below_drew1|refine below_set ?_ GE201.out)|exact HB.out)) hb);have n4_:=Aside0.mk (hbox);have n5_:=Aside0.mk ((by rw [hg];exact (below_size (by repeat (first|(with_reducible first|exact HB.out|apply below_alloc|apply pw_below_drewN|apply below_drew1|refine below_set ?_ GE201.out)|exact HB.out))) : w.heap.size ≤ gb208));have n6_:=Aside0.mk ((by rw [hg];exact (below_size (by repeat (first|(with_reducible first|exact HB.out|apply below_alloc|apply pw_below_drewN|apply below_drew1|refine below_set ?_ GE201.out)|exact HB.out))) : w.heap.size ≤ gb208));have n7_:=Aside0.mk ((by rw [hg];exact Nat.ne_of_lt (blk_lt (g:=gb201) (o:=.cells #[.slice A0_0 l0_0.length c0_0, .slice (some ad207) l0_1.length c0_1] 29 (0, 0)) (by (with_reducible repeat (first|refine blk_drewN ?_ _|refine blk_drew ?_|refine blk_alloc ?_ _));exact BK201.out)) : gb201 ≠ gb208));have n8_:=Aside0.mk ((by rw [hg];exact Nat.ne_of_gt (blk_lt (g:=gb201) (o:=.cells #[.slice A0_0 l0_0.length c0_0, .slice (some ad207) l0_1.length c0_1] 29 (0, 0)) (by (with_reducible repeat (first|refine blk_drewN ?_ _|refine blk_drew ?_|refine blk_alloc ?_ _));exact BK201.out)) : gb208 ≠ gb201));clear HO_6;clear HO_7;clear BK201;clear HB;have HO_6:=n0_;have HO_7:=n1_;have BK201:=n2_;have HB:=n3_;have BK208:=n4_;have GW208:=n5_;have GE208:=n6_;have NB201_208:=n7_;have NB208_201:=n8_;clear n0_ n1_ n2_ n3_ n4_ n5_ n6_ n7_ n8_;clear hb hbox hg;have hnb28:=NB208_201.out;have hnc28:=NB201_208.out;have hcz29_0 : w27.cell? ⟨gb208, 0, none⟩ = some (.int .i64 0):=(blk_cell BK208.out 0).trans rfl;have hcz29_1 : w27.cell? ⟨gb208, 1, none⟩ = some (.int .i64 0):=(blk_cell BK208.out 1).trans rfl;have hfz29_0:=blk_frozen BK208.out 0;have hfz29_1:=blk_frozen BK208.out 1))
          go_roundg k2
          case measure => have := HK1.out; have := HK2.out; omega
          case rel => exact ⟨(x7_2), (wrap64 (x31_2 + 1)), (by first|rfl|(simp;done)|(simp [*];done)), H', ⟨by have:=HK1.out;have:=HK2.out;omega⟩, ⟨by (with_reducible repeat (first|apply Kd.R_alloc|apply Kd.R_drewN|apply Kd.R_drew));exact Kd.R_mono (Kd.R_far (p:=⟨gb208, 1, none⟩) (Kd.R_far (p:=⟨gb208, 0, none⟩) (Kd.R_types HO_6.out BK208.out (by decide)) (fun _ hk => hk.2) (.int .i64 ((rd_T70 l0_1 x31_2).f0))) (fun _ hk => hk.2) (.int .i64 ((rd_T70 l0_1 x31_2).f1))) (fun _ hk => trivial)⟩, ⟨by (with_reducible repeat (first|apply Kd.R_alloc|apply Kd.R_drewN|apply Kd.R_drew));exact Kd.R_mono (Kd.R_far (p:=⟨gb208, 1, none⟩) (Kd.R_far (p:=⟨gb208, 0, none⟩) (Kd.R_types HO_7.out BK208.out (by decide)) (fun _ hk => hk.2) (.int .i64 ((rd_T70 l0_1 x31_2).f0))) (fun _ hk => hk.2) (.int .i64 ((rd_T70 l0_1 x31_2).f1))) (fun _ hk => trivial)⟩, ⟨by (with_reducible repeat (first|refine blk_drewN ?_ _|refine blk_drew ?_|refine blk_alloc ?_ _));refine blk_far ?_ NB201_208.out _;(with_reducible repeat (first|refine blk_drewN ?_ _|refine blk_drew ?_|refine blk_alloc ?_ _));refine blk_far ?_ NB201_208.out _;(with_reducible repeat (first|refine blk_drewN ?_ _|refine blk_drew ?_|refine blk_alloc ?_ _));exact BK201.out⟩, ⟨by repeat (first|(with_reducible first|exact HB.out|apply below_alloc|apply pw_below_drewN|apply below_drew1|refine below_set ?_ GE201.out|refine below_set ?_ GE208.out)|exact HB.out)⟩⟩
        ·rw [if_neg c20] at H
         exact absurd H (by simp)
       ·rw [if_neg c19] at H
        exact absurd H (by simp)
      ·rw [if_neg c18] at H
       have c18b0 : decide (x31_2 < (l0_1.length : Int)) = false := decide_eq_false c18
       clear c18
       simp only [Option.some.injEq, Prod.mk.injEq] at H
       obtain ⟨rfl, rfl⟩ := H
       go_wp2
       go_ret2
       exact ⟨_, _, by first|rfl|(simp [errW_none, errW_some] <;> rfl)|(simp [*, errW_none, errW_some] <;> rfl), by (with_reducible repeat (first|apply Kd.R_alloc|apply Kd.R_drewN|apply Kd.R_drew));exact HO_6.out, by (with_reducible repeat (first|apply Kd.R_alloc|apply Kd.R_drewN|apply Kd.R_drew));exact HO_7.out, by repeat (first|(with_reducible first|exact HB.out|apply below_alloc|apply pw_below_drewN|apply below_drew1|refine below_set ?_ GE201.out)|exact HB.out)⟩

-- NOT PRINTED: function 17 (segment_Segment_Has)

-- NOT PRINTED: function 18 (chancellaw05_loaded)

/-! ### chancelref05_with: function 48 -/

end Go.Proofs.YtjphmebhofkhcaaDoor.PSegAll
