/- Marks: the walks of slices.Clone at sites and of moved. Conditions: at most 2^40 sites. -/
import Derived.Test.YtdgjjdpeaohebaaGMarksK5
namespace Go.Proofs.Ytdgjjdpeaohebaa.Mk
open Go.RowKit Go.Proofs.YtdgjjdpeaohebaaW.PrintWords Go.Proofs.YtdgjjdpeaohebaaW.PrintLast Go.Proofs.YtdgjjdpeaohebaaW.PrintMore Go.Proofs.Ytdgjjdpeaohebaa.PMarksTake Go.Proofs.Ytdgjjdpeaohebaa.Pure
set_option linter.unusedVariables false
set_option linter.unusedSimpArgs false
theorem infoC38 : (Try.prog.info? 38).map (fun i => (i.zero, i.size, i.bytes)) = some (some (.agg #[.int .i64 0, .int .i64 0]), 2, 16) := by kernel_rfl
theorem k38_M_of_K {w : World} {base : Nat} {ok : Nat → Prop} (x : S38) (cs : List Value) (h : k38.K w x cs) : k38.M w base ok x cs := by
  obtain rfl := k38_open h
  exact k38_mkM _ _ _ _
set_option maxHeartbeats 800000 in
set_option maxRecDepth 100000 in
theorem clone38 (A : Option Addr) (c : Nat) (xs : List S38) (w : World) (hr : Kd.C k38 w A xs.length xs) (hc : xs.length ≤ c) (hl : xs.length * 16 ≤ 140737488355328) :
    Calls Try.prog 30 #[.slice A xs.length c] w fun e w' => ∃ v, e = .returned v ∧ Kd.R k38 38 w' w.heap.size (fun _ => True) v xs ∧ Below w.heap.size w w' := by
  have qn : ∀ (w : World) (a : Option Addr) (n c : Nat), (binOp .eql 23 (.slice a n c) (.slice none 0 0)).run Try.prog w = .ok (.bool a.isNone) w := fun w a n c => Lib.run_eql_slice_nil w _ _ a n c 0 0 Try.underlying23
  have HR := Lib.hid hr
  have HC := Lib.hid hc
  have HL := Lib.hid hl
  cases A with
  | none =>
    have hx : xs = [] := by
      rcases Nat.eq_zero_or_pos xs.length with h0 | h0
      · exact List.length_eq_zero_iff.1 h0
      · obtain ⟨_, e, _⟩ := hr.2.2 h0
        cases e
    clear hr hc hl
    go_enter Try.func30, Try.ntmps30
    go_wp2
    go_ret
    subst hx
    exact ⟨_, rfl, Kd.R_nil _ _ _ _ _, Below.refl _ _⟩
  | some ad =>
    clear hr hc hl
    go_enter Try.func30, Try.ntmps30
    go_wp2_with (first
      | ((with_reducible refine gate_dst (N := 5) rfl ?_)
         refine Kd.R_lit k38 _ 38 ?hg (N := 5) ?hd (xs := ([] : List S38)) (inner := []) (ok := fun _ => True) (okp := fun _ => True) ?hr ?hp (fun _ hk => hk) trivial (Below.refl _ _) (Nat.le_refl _) (by simp) ?_
         (case hd => rfl); (case hg => rfl); (case hr => first | (go_simp; done) | (go_simp; rfl)); (case hp => exact Reps.none _ _)
         intro v1 w1 HO HB hg hat; have HO1 := Lib.hid HO; have HB1 := Lib.hid HB; clear HO HB hg hat)
      | ((with_reducible refine gate_dst (N := 7) rfl ?_)
         refine Kd.R_append_rows k38 _ ?hg (.tmp 5) (.tmp 6) 23 38 (.agg #[.int .i64 0, .int .i64 0]) 16 rfl Try.underlying23 infoC38 rfl (by decide) (by decide) _ [] xs (some ad) xs.length c (fun _ => True) (fun k => some k ≠ v1.ownBlock) rfl rfl HO1.out (Kd.C_below HR.out HB1.out) (fun x cs h => k38_M_of_K x cs h) (fun _ h => ⟨trivial, h⟩) (fun _ _ => trivial) HB1.out (HB1.out.size) (by have := HL.out; simpa using this) ?_
         (case hg => rfl)
         intro v2 w2 HO HB hg hat; have HO2 := Lib.hid HO; have HB2 := Lib.hid HB; clear HO HB hg hat))
    go_ret
    exact ⟨_, rfl, HO2.out, HB2.out⟩
theorem below_grown {w W W' : World} {v : Value} (hb : Below w.heap.size w W) (hg : W.grownBy W' v.ownBlock) (hv : ∀ k, v.ownBlock = some k → w.heap.size ≤ k) : Below w.heap.size w W' :=
  ⟨hg.os.trans hb.os, hg.tape.trans hb.tape, hg.output.trans hb.output, Nat.le_trans hb.size hg.size, fun k hk => (hg.block k (Nat.lt_of_lt_of_le hk hb.size) (fun e => by have := hv k e.symm; omega)).trans (hb.block k hk)⟩
theorem own_base {W : World} {base : Nat} {ok : Nat → Prop} {v : Value} {ys : List SY} (h : Kd.R kY 38 W base ok v ys) : ∀ k, v.ownBlock = some k → base ≤ k := by
  obtain ⟨_, inner, ⟨_, ho⟩, _⟩ := h
  intro k hk
  rcases ho with ⟨hv, _⟩ | ⟨g, cap, cur, hv, hb, _⟩
  · subst hv; cases hk
  · subst hv
    injection hk with hk
    have hk' : g = k := hk
    omega
/-- What is asked of a function on places, in every world behind w. -/
abbrev PredP (w : World) (g : Nat) (lb : Array Value) (f : Int → Int) : Prop :=
  ∀ (W : World) (p : Int), Below w.heap.size w W → Calls Try.prog g (#[Value.int .i64 p] ++ lb) W fun e w' => e = .returned (.int .i64 (f p)) ∧ Below W.heap.size W w'
def mvY (f : Int → Int) (y : SY) : SY := ⟨y.f0, f y.f1⟩
theorem own_set1 {W : World} {base : Nat} {g n c : Nat} {ys : List SY} (h : Kd.R kY 38 W base (fun _ => True) (.slice (some ⟨g, 0, none⟩) n c) ys) {i : Nat} {y : SY} (hy : ys[i]? = some y) (z : Int) :
    Kd.R kY 38 (W.setCell ⟨g, i * 2 + 1, none⟩ (.int .i64 z)) base (fun _ => True) (.slice (some ⟨g, 0, none⟩) n c) (ys.set i ⟨y.f0, z⟩) ∧ W.grownBy (W.setCell ⟨g, i * 2 + 1, none⟩ (.int .i64 z)) (some g) := by
  have hn := (Kd.R_reads' h).1
  have hi : i < n := by have := (List.getElem?_eq_some_iff.1 hy).1; omega
  obtain ⟨y0, y1⟩ := own_at h hy
  have hcc : ∀ j u, ([.int .i64 y.f0, .int .i64 y.f1] : List Value)[j]? = some u → W.cell? ⟨g, (i : Int).toNat * kY.sz + j, none⟩ = some u := by
    intro j u hu
    have e : (i : Int).toNat * kY.sz = i * 2 := by rw [Int.toNat_natCast]; rfl
    rw [e]
    rcases j with _ | _ | j
    · simp at hu; rw [← hu]; exact y0
    · simp at hu; rw [← hu]; exact y1
    · simp at hu
  have hs := Kd.R_seg (j := 1) (seg := [.int .i64 z]) (c := [.int .i64 y.f0, .int .i64 y.f1]) h (i : Int) (by omega) (by omega) rfl hcc (show (2 : Nat) ≤ 2 from Nat.le_refl _) (x' := ⟨y.f0, z⟩) (okp := fun k => True ∧ k ≠ g) (k38_mkM _ _ _ _) (fun _ h => h)
  have e : W.setCells g ((i : Int).toNat * kY.sz + 1) [.int .i64 z] = W.setCell ⟨g, i * 2 + 1, none⟩ (.int .i64 z) := by rw [Int.toNat_natCast]; rfl
  rw [e, Int.toNat_natCast] at hs
  exact hs
structure MvZ (w : World) (v : Value) (cur : List SY) (W : World) : Prop where
  b : Below w.heap.size w W
  row : Kd.R kY 38 W w.heap.size (fun _ => True) v cur
theorem MvZ.next {w W W' : World} {v : Value} {cur : List SY} (h : MvZ w v cur W) (hb : Below W.heap.size W W') : MvZ w v cur W' := ⟨below_step h.b hb, Kd.R_below h.row hb⟩
def RetMv (ys : List SY) (w : World) (e : Ending) (w' : World) : Prop := ∃ v, e = .returned v ∧ Kd.R kY 38 w' w.heap.size (fun _ => True) v ys ∧ Below w.heap.size w w'
theorem mv_len (f : Int → Int) (ys : List SY) (kk : Nat) (h : kk ≤ ys.length) : ((ys.take kk).map (mvY f) ++ ys.drop kk).length = ys.length := by simp; omega
theorem mv_at {f : Int → Int} {ys : List SY} {kk : Nat} {y : SY} (h : ys[kk]? = some y) : ((ys.take kk).map (mvY f) ++ ys.drop kk)[kk]? = some y := by
  have hl := (List.getElem?_eq_some_iff.1 h).1
  rw [List.getElem?_append_right (by simp; omega)]
  simp only [List.length_map, List.length_take]
  rw [Nat.min_eq_left (by omega), Nat.sub_self, List.getElem?_drop, Nat.add_zero, h]
theorem mv_set {f : Int → Int} {ys : List SY} {kk : Nat} {y : SY} (h : ys[kk]? = some y) : ((ys.take kk).map (mvY f) ++ ys.drop kk).set kk (mvY f y) = (ys.take (kk + 1)).map (mvY f) ++ ys.drop (kk + 1) := by
  obtain ⟨hl, e⟩ := List.getElem?_eq_some_iff.1 h
  rw [List.set_append_right _ _ (by simp; omega)]
  simp only [List.length_map, List.length_take]
  rw [Nat.min_eq_left (by omega), Nat.sub_self, List.drop_eq_getElem_cons hl, List.set_cons_zero, List.take_succ_eq_append_getElem hl, List.map_append, List.append_assoc, e]
  rfl
set_option maxRecDepth 1000000 in
set_option maxHeartbeats 8000000 in
theorem moved_calls (A : Option Addr) (c : Nat) (ys : List SY) (g : Nat) (lb : Array Value) (f : Int → Int) (w : World) (eg : ∀ args w, (callFunc g args).run Try.prog w = .ok (.enter g args) w) (hp : PredP w g lb f) (hr : Kd.C kY w A ys.length ys) (hc : ys.length ≤ c) (hl : ys.length ≤ 1099511627776) :
    Calls Try.prog 36 #[.slice A ys.length c, .func (.func g) #[] lb] w (RetMv (normY (ys.map (mvY f))) w) := by
  have HR := Lib.hid hr
  have HP := Lib.hid hp
  clear hr hp
  go_enter Try.func36, Try.ntmps36
  go_wp2_with fail
  (go_at_call 30; refine (clone38 A c ys _ HR.out hc (by omega)).mono ?_; rintro e w1 ⟨v, rfl, hr1, hb1⟩)
  obtain ⟨A1, c1, e1⟩ := Kd.R_slice hr1
  subst e1
  have Z1 := Lib.hid (show MvZ w (.slice A1 ys.length c1) ys w1 from ⟨hb1, hr1⟩)
  clear hr1 hb1
  go_wp2
  go_loopw [11] (fun s11 wr => ∃ kk : Nat, kk ≤ ys.length ∧ s11 = .int .i64 (kk : Int) ∧ Hid (MvZ w (.slice A1 ys.length c1) ((ys.take kk).map (mvY f) ++ ys.drop kk) wr)) (fun s11 _ => ys.length - cntM s11)
  case atStart => exact ⟨0, Nat.zero_le _, rfl, by simpa using Z1⟩
  case round =>
    obtain ⟨kk, hkk, rfl, ZW⟩ := hrel
    by_cases hlt : kk < ys.length
    · have d1 : decide ((kk : Int) < (ys.length : Int)) = true := by simp; omega
      have b1 : (0 : Int) ≤ (kk : Int) := by omega
      have b2 : (kk : Int) < (ys.length : Int) := by omega
      have w1_ : IntKind.i64.wrap ((kk : Int) + 1) = (kk : Int) + 1 := IntWalk.i64_in _ (by omega)
      obtain ⟨y, hy⟩ : ∃ y, ys[kk]? = some y := ⟨_, List.getElem?_eq_getElem hlt⟩
      have HY := Lib.hid hy
      obtain ⟨g1, cap, he, hbase, hgl, _⟩ := Kd.R_form ZW.out.row (by rw [mv_len f ys kk hkk]; omega)
      injection he with e1 e2 e3
      subst e1; subst e3
      obtain ⟨y0, y1⟩ := own_at ZW.out.row (mv_at (f := f) hy)
      clear hy e2 hbase hgl
      go_wp2_with fail
      (refine (HP.out _ y.f1 ZW.out.b).mono ?_; rintro e w5 ⟨rfl, hb5⟩)
      have Z5 := Lib.hid (ZW.out.next hb5)
      clear hb5 y0 y1
      obtain ⟨y0, y1⟩ := own_at Z5.out.row (mv_at (f := f) HY.out)
      have z1 := own_fr Z5.out.row (kk * 2 + 1)
      go_upto_region 6 with fail
      refine gen2 (φ := fun W => Code.wp _ _ _ _ W) (P := fun W => MvZ w (.slice (some ⟨g1, 0, none⟩) ys.length c1) ((ys.take (kk + 1)).map (mvY f) ++ ys.drop (kk + 1)) W) ⟨below_grown (v := .slice (some ⟨g1, 0, none⟩) ys.length c1) Z5.out.b (own_set1 Z5.out.row (mv_at (f := f) HY.out) (f y.f1)).2 (own_base Z5.out.row), by have h := (own_set1 Z5.out.row (mv_at (f := f) HY.out) (f y.f1)).1; rw [show (⟨y.f0, f y.f1⟩ : SY) = mvY f y from rfl, mv_set HY.out] at h; exact h⟩ ?_
      rintro V hV
      have ZV := Lib.hid hV
      clear hV y0 y1 z1
      go_wp2
      go_roundw
      case rel => exact ⟨kk + 1, by omega, by go_num, ZV⟩
      case measure =>
        simp only [cntM]
        omega
    · have d1 : decide ((kk : Int) < (ys.length : Int)) = false := by simp; omega
      obtain rfl : kk = ys.length := by omega
      have LM : Hid ((ys.map (mvY f)).length ≤ 1099511627776) := Lib.hid (by rw [List.length_map]; exact hl)
      rw [List.take_length, List.drop_length, List.append_nil] at ZW
      go_wp2_with fail
      (go_at_call 45; refine (sort_calls _ _ _ _ _ ZW.out.row (by have := LM.out; omega)).mono ?_; rintro e w6 ⟨zs, rfl, hpm, hso, hr6, hg6⟩)
      have B6 := Lib.hid (below_grown ZW.out.b hg6 (own_base ZW.out.row))
      have R6 := Lib.hid hr6
      have LZ : Hid (zs.length ≤ 1099511627776) := Lib.hid (by rw [hpm.length_eq]; exact LM.out)
      have EN := Lib.hid (show ddT zs zs.length = normY (ys.map (mvY f)) by rw [ddT_norm hso, normY_perm hpm])
      clear hr6 hg6 hpm hso
      go_wp2_with fail
      (go_at_call 46; refine (compact_calls _ zs _ _ R6.out LZ.out).mono ?_; rintro e w7 ⟨v7, rfl, hr7, hg7⟩)
      have B7 := Lib.hid (below_grown B6.out hg7 (own_base R6.out))
      have R7 := Lib.hid hr7
      clear hr7 hg7 R6
      go_wp2
      go_ret
      exact ⟨_, rfl, by rw [← EN.out]; exact R7.out, B7.out⟩
end Go.Proofs.Ytdgjjdpeaohebaa.Mk
