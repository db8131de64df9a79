/- The walk of rope.New at a right text: its rope. Conditions: texts of at most 2^40 bytes; Go's two tables of utf8 as they are laid. -/
import Derived.Test.YtdbdcnpajeflkaaDoorGRope9
namespace Go.Proofs.YtdbdcnpajeflkaaDoor.Rope
open Go.RowKit Go.Proofs.YtdbdcnpajeflkaaDoorW.PrintWords Go.Proofs.YtdbdcnpajeflkaaDoorW.PrintLast Go.Proofs.YtdbdcnpajeflkaaDoorW.PrintMore
set_option linter.unusedVariables false
set_option linter.unusedSimpArgs false
/-- What holds at the head of New's loop. -/
def NewRel (w : World) (s : ByteArray) (k : Nat) (v u : Value) (wr : World) : Prop :=
  ∃ (pos f frm : Nat) (ts : List T) (bs : List Nat), wr.heap[k]? = some (.stringIter s pos) ∧ OwnP wr w.heap.size v bs ∧ IsTs wr ts bs ∧ u = .int .i64 (frm : Int) ∧ frm ≤ pos ∧ bs.length ≤ pos ∧
    newGo s f pos frm ts = newGo s s.size 0 0 [] ∧ s.size ≤ pos + f ∧ Below w.heap.size w wr
theorem new_end {w wr : World} {s : ByteArray} {k : Nat} {v u : Value} (h : NewRel w s k v u wr) (hp : ¬ wr.iterPos k < s.size) :
    ∃ (frm : Nat) (ts : List T) (bs : List Nat), OwnP wr w.heap.size v bs ∧ IsTs wr ts bs ∧ u = .int .i64 (frm : Int) ∧ newGo s s.size 0 0 [] = (ts, frm) ∧ Below w.heap.size w wr ∧ wr.heap[k]? = some (.stringIter s (wr.iterPos k)) := by
  obtain ⟨pos, f, frm, ts, bs, h1, h2, h3, h4, h5, h6, h7, h8, h9⟩ := h
  have e : wr.iterPos k = pos := by simp [World.iterPos, h1]
  rw [e] at hp
  refine ⟨frm, ts, bs, h2, h3, h4, ?_, h9, by rw [e]; exact h1⟩
  rw [← h7]
  cases f <;> simp [newGo, hp]
theorem iter_move {w : World} {k : Nat} {s : ByteArray} {pos : Nat} (hk : w.heap[k]? = some (.stringIter s pos)) (pos' : Nat) {t : TypeId} : ∀ (g : Nat) (cs : Array Value), w.heap[g]? = some (.cells cs t (0, 0)) → (w.iterAt k s pos').heap[g]? = w.heap[g]? := by
  intro g cs hg
  refine Lib.iterAt_other w k g s pos' ?_
  rintro rfl
  rw [hk] at hg
  cases hg
theorem grown_move {w w1 : World} {base : Nat} {v : Value} {bs : List Nat} (h : OwnP w base v bs) (hg : w.grownBy w1 v.ownBlock) {t : TypeId} (ht : t ≠ 22) : ∀ (g : Nat) (cs : Array Value), w.heap[g]? = some (.cells cs t (0, 0)) → w1.heap[g]? = w.heap[g]? := by
  intro g cs hc
  refine hg.block g (blk_lt hc) ?_
  intro e
  obtain ⟨cs', hc'⟩ := own_typed h g e.symm
  rw [hc] at hc'
  injection hc' with hc'
  injection hc' with _ hc'
  exact ht hc'
theorem grown_iter {w w1 : World} {base : Nat} {v : Value} {bs : List Nat} (h : OwnP w base v bs) (hg : w.grownBy w1 v.ownBlock) {k : Nat} {s : ByteArray} {pos : Nat} (hk : w.heap[k]? = some (.stringIter s pos)) : w1.heap[k]? = some (.stringIter s pos) := by
  refine (hg.block k (blk_lt hk) ?_).trans hk
  intro e
  obtain ⟨cs', hc'⟩ := own_typed h k e.symm
  rw [hk] at hc'
  cases hc'
/-- A part more: the relation behind the append. -/
theorem rel_more {w W w2 w3 : World} {s : ByteArray} {k pos f frm b : Nat} {v v3 : Value} {ts : List T} {bs : List Nat} {t : T} {pos' : Nat}
    (hk : W.heap[k]? = some (.stringIter s pos')) (ho : OwnP W w.heap.size v bs) (hi : IsTs W ts bs) (hb2 : Below W.heap.size W w2) (ht : IsT w2 t b) (hg : w2.grownBy w3 v.ownBlock)
    (ho3 : w3.ownsRow w.heap.size 22 1 v3 (bs ++ [b]).length (encs encP (bs ++ [b]))) (hB : Below w.heap.size w w3) (hfr : frm ≤ pos) (hl : bs.length ≤ pos) (hpp : pos + 1 ≤ pos')
    (hn : newGo s f pos' pos (ts ++ [t]) = newGo s s.size 0 0 []) (hsz : s.size ≤ pos' + f) : NewRel w s k v3 (.int .i64 (pos : Int)) w3 := by
  have ho2 := ho.below hb2
  exact ⟨pos', f, pos, ts ++ [t], bs ++ [b], grown_iter ho2 hg (blk_below hk hb2), ho3, ((hi.below hb2).snoc ht).move (grown_move ho2 hg (by decide)), rfl, by omega, by rw [List.length_append, List.length_singleton]; omega, hn, hsz, hB⟩
set_option maxRecDepth 1000000 in
set_option maxHeartbeats 4000000 in
theorem new_right (s : ByteArray) (w : World) (hs : s.size ≤ 1099511627776) (hT : Tabs w) (hv : Lib.validD s.data.toList = true) (hne : AllNe (newL s)) (hsum : sumB (newL s) = s.size) : Calls Tryd.prog 8 #[.string s] w (RetB (buildL (newL s)) true w) := by
  have cR := letters_Right s w hs hT
  rw [hv] at cR
  have HNE := Lib.hid hne
  have HSUM := Lib.hid hsum
  clear hv hT hne hsum
  go_enter Tryd.func8, Tryd.ntmps8
  go_wp2_with (go_at_call 20; refine cR.mono ?_; rintro e w1 ⟨rfl, hb⟩; have HB := Lib.hid hb; clear hb)
  clear cR
  generalize hk : w1.heap.size = k
  have HK := Lib.hid hk
  clear hk
  go_loopw [4, 5] (fun v u wr => NewRel w s k v u wr) (fun _ _ wr => s.size - wr.iterPos k)
  case atStart =>
    refine ⟨0, s.size, 0, [], [], ?_, OwnP.none _ _, ⟨rfl, fun j t b h1 _ => by simp at h1⟩, rfl, Nat.le_refl _, Nat.le_refl _, rfl, by omega, HB.out.alloc HB.out.size _⟩
    rw [← HK.out]; exact heap_alloc_new w1 _
  case round =>
    by_cases hp : wr.iterPos k < s.size
    · obtain ⟨pos, f, frm, ts, bs, hit, hown, hts, rfl, hfr, hbl, hgo, hsz, hbw⟩ := hrel
      have ep : wr.iterPos k = pos := by simp [World.iterPos, hit]
      rw [ep] at hp
      have hwd := Lib.decode_width_pos s pos hp
      have hE : (Utf8.encode ((Utf8.decode s pos).1 : Int)).size ≤ 4 := encode_le _
      have hnx : ∀ ty, (Instr.next (.pointer (some ⟨k, 0, none⟩)) true ty).run Tryd.prog wr = _ := fun ty => Lib.run_next_any_at wr k s pos ty hit hp
      have HIT := Lib.hid hit
      have HOWN := Lib.hid hown
      have HTS := Lib.hid hts
      have HGO := Lib.hid hgo
      have HBW := Lib.hid hbw
      have EP := Lib.hid ep
      clear hit hown hts hgo hbw ep
      go_upto_region 8 with (fail)
      generalize hr : (Utf8.decode s pos).1 = r at *
      generalize hw : (Utf8.decode s pos).2 = wd at *
      have HR := Lib.hid hr
      have HW := Lib.hid hw
      clear hr hw hnx
      have HBI := Lib.hid (Lib.below_iterAt HBW.out (show w.heap.size ≤ k by rw [← HK.out]; exact HB.out.size) s (pos + wd))
      have HITN := Lib.hid (Lib.iterAt_heap wr k s pos (pos + wd) HIT.out)
      have HOI := Lib.hid (HOWN.out.move (iter_move HIT.out (pos + wd)))
      have HTI := Lib.hid (HTS.out.move (iter_move HIT.out (pos + wd)))
      have HIP := Lib.hid (show (wr.iterAt k s (pos + wd)).iterPos k = pos + wd by simp [World.iterPos, HITN.out])
      by_cases c : (64 : Int) < (pos : Int) + ((Utf8.encode (r : Int)).size : Int) - (frm : Int)
      · have hd : decide ((64 : Int) < (pos : Int) + ((Utf8.encode (r : Int)).size : Int) - (frm : Int)) = true := by simpa using c
        have C := Lib.hid c
        clear c
        have hlen : (s.extract frm pos).size ≤ 1099511627776 := by rw [ByteArray.size_extract]; omega
        have HL := Lib.hid (show bs.length + 1 ≤ 1099511627777 by omega)
        have y1 : (frm : Int) ≤ (pos : Int) := by omega
        have y2 : (pos : Int) ≤ (s.size : Int) := by omega
        have y3 : (0 : Int) ≤ (frm : Int) := by omega
        clear HIT HOWN HTS HBW
        generalize hW : wr.iterAt k s (pos + wd) = W at *
        have HWI := Lib.hid hW
        clear hW
        go_wp2_with fail
        (go_at_call 21; refine (leaf_calls (s.extract frm pos) _ hlen).mono ?_; rintro e w2 ⟨b, rfl, ht, hb2⟩)
        have HT2 := Lib.hid ht
        have HB2 := Lib.hid hb2
        have HB2W := Lib.hid (below_step HBI.out hb2)
        have HO2 := Lib.hid (HOI.out.below hb2)
        clear ht hb2 hlen
        go_wp2_with (first | ((with_reducible refine gate_builtin (b := .append) rfl ?_); refine print_append_of (w0 := w) encP w.heap.size rfl _ _ 38 22 (.pointer none) 8 rfl Tryd.underlying38 info_ptr rfl (by decide) u4 bs b rfl rfl rfl ?h1 ?h2 ?h3 ?h4 ?_; (case h1 => exact HO2.out); (case h2 => exact HB2W.out); (case h3 => exact HB2W.out.size); (case h4 => have := HL.out; omega); intro v3 w3 ho3 hb3 hg3 hat3; have HO3 := Lib.hid ho3; have HB3 := Lib.hid hb3; have HG3 := Lib.hid hg3; clear ho3 hb3 hg3 hat3))
        go_roundw
        case rel =>
          have hE2 := HR.out
          refine rel_more HITN.out HOI.out HTI.out HB2.out HT2.out HG3.out HO3.out HB3.out hfr hbl (f := f - 1) (by omega) ?_ (by omega)
          have := HGO.out
          cases f with
          | zero => omega
          | succ f =>
            rw [newGo, if_pos hp, if_pos (by unfold encLen; rw [HR.out]; exact C.out), HW.out] at this
            exact this
        case measure =>
          have e1 := EP.out
          have e2 : w3.iterPos k = pos + wd := by
            have := grown_iter HO2.out HG3.out (blk_below HITN.out HB2.out)
            simp [World.iterPos, this]
          rw [e1, e2]
          omega
      · have hd : decide ((64 : Int) < (pos : Int) + ((Utf8.encode (r : Int)).size : Int) - (frm : Int)) = false := by simpa using c
        have C := Lib.hid c
        clear c
        go_wp2
        go_roundw
        case rel =>
          refine ⟨pos + wd, f - 1, frm, ts, bs, HITN.out, HOI.out, HTI.out, rfl, by omega, by omega, ?_, by omega, HBI.out⟩
          have := HGO.out
          cases f with
          | zero => omega
          | succ f =>
            rw [newGo, if_pos hp, if_neg (by unfold encLen; rw [HR.out]; exact C.out), HW.out] at this
            exact this
        case measure =>
          rw [EP.out, HIP.out]
          omega
    · obtain ⟨frm, ts, bs, hown, hts, rfl, hgo, hbw, hit⟩ := new_end hrel hp
      have hnx : ∀ ty, (Instr.next (.pointer (some ⟨k, 0, none⟩)) true ty).run Tryd.prog wr = _ := fun ty => Lib.run_next_end_at wr k s _ ty hit hp
      have HOWN := Lib.hid hown
      have HTS := Lib.hid hts
      have HBW := Lib.hid hbw
      have HGO := Lib.hid hgo
      clear hrel hit hown hts hbw hgo
      by_cases c : frm < s.size
      · have hd : decide ((frm : Int) < (s.size : Int)) = true := by simp; omega
        have E : newL s = ts ++ [.leaf (s.extract frm s.size)] := by unfold newL; rw [HGO.out, if_pos c]
        have hne := HNE.out
        have hsum := HSUM.out
        rw [E] at hne hsum
        have HNE' := Lib.hid hne
        have hz : sumB (ts ++ [.leaf (s.extract frm s.size)]) ≤ 1099511627776 := by omega
        have HZ := Lib.hid hz
        have hln : ts.length ≤ s.size := by
          have h1 : ∀ l : List T, AllNe l → l.length ≤ sumB l := by
            intro l
            induction l with
            | nil => intro _; exact Nat.le_refl _
            | cons x r ih =>
              intro hl
              have h2 := ih fun t ht => hl t (by simp [ht])
              have h3 := x.h_lt (hl x (by simp))
              simp only [sumB, List.map_cons, List.sum_cons, List.length_cons] at *
              omega
          have h4 := h1 _ hne
          rw [List.length_append] at h4
          omega
        have hlb := HTS.out.1
        have HL := Lib.hid (show bs.length + 1 ≤ 1099511627777 by omega)
        have hlen : (s.extract frm s.size).size ≤ 1099511627776 := by rw [ByteArray.size_extract]; omega
        have y1 : (frm : Int) ≤ (s.size : Int) := by omega
        have y3 : (0 : Int) ≤ (frm : Int) := by omega
        have EE := Lib.hid E
        clear E hne hsum hz hln hlb
        go_wp2_with fail
        (go_at_call 21; refine (leaf_calls (s.extract frm s.size) _ hlen).mono ?_; rintro e w2 ⟨b, rfl, ht, hb2⟩)
        have HT2 := Lib.hid ht
        have HB2 := Lib.hid hb2
        have HB2W := Lib.hid (below_step HBW.out hb2)
        have HO2 := Lib.hid (HOWN.out.below hb2)
        clear ht hb2 hlen
        go_wp2_with (first | (go_at_call 22; fail) | (first | ((with_reducible refine gate_builtin (b := .append) rfl ?_); refine print_append_of (w0 := w) encP w.heap.size rfl _ _ 38 22 (.pointer none) 8 rfl Tryd.underlying38 info_ptr rfl (by decide) u4 bs b rfl rfl rfl ?h1 ?h2 ?h3 ?h4 ?_; (case h1 => exact HO2.out); (case h2 => exact HB2W.out); (case h3 => exact HB2W.out.size); (case h4 => have := HL.out; omega); intro v3 w3 ho3 hb3 hg3 hat3; have HO3 := Lib.hid ho3; have HB3 := Lib.hid hb3; have HG3 := Lib.hid hg3; clear ho3 hb3 hg3 hat3)))
        have hts3 : IsTs w3 (ts ++ [.leaf (s.extract frm s.size)]) (bs ++ [b]) := ((HTS.out.below HB2.out).snoc HT2.out).move (grown_move HO2.out HG3.out (by decide))
        have HT3 := Lib.hid hts3
        have hl3 := hts3.1
        rcases OwnP.row (show OwnP w3 w.heap.size v3 (bs ++ [b]) from HO3.out) with ⟨_, e2⟩ | ⟨g, c3, rfl, hc1, hc2, hrow⟩
        · simp at e2
        · have HRW := Lib.hid hrow
          have HL3 := Lib.hid hl3
          have HC1 := Lib.hid hc1
          clear hrow hl3 hts3 hc1
          go_wp2_with fail
          (go_at_call 22; rw [← HL3.out]; refine (build_calls _ _ _ g 0 c3 _ (Nat.le_refl _) HT3.out HRW.out (by rw [HL3.out]; exact HC1.out) hc2 HNE'.out HZ.out).mono ?_; rintro e w4 ⟨v4, rfl, k4, hb4⟩)
          have K4 := Lib.hid k4
          have HB4 := Lib.hid hb4
          clear k4 hb4
          go_wp2
          go_ret2
          exact ⟨_, rfl, by rw [EE.out]; exact K4.out, below_step HB3.out HB4.out⟩
      · have hd : decide ((frm : Int) < (s.size : Int)) = false := by simp; omega
        have E : newL s = ts := by unfold newL; rw [HGO.out, if_neg c]
        have hne := HNE.out
        have hsum := HSUM.out
        rw [E] at hne hsum
        have HNE' := Lib.hid hne
        have hz : sumB ts ≤ 1099511627776 := by omega
        have HZ := Lib.hid hz
        have hl3 := HTS.out.1
        have EE := Lib.hid E
        clear E hne hsum hz
        rcases OwnP.row HOWN.out with ⟨rfl, e2⟩ | ⟨g, c3, rfl, hc1, hc2, hrow⟩
        · have e3 : ts = [] := List.eq_nil_of_length_eq_zero (by rw [hl3, e2]; rfl)
          have E4 : Hid (buildL ts = none) := by show _ = _; rw [e3, buildL, dif_pos (by simp)]; rfl
          clear e2 e3 hl3
          go_wp2_with fail
          (go_at_call 22; refine (build_nil none 0 _).mono ?_; rintro e w4 ⟨v4, rfl, k4, hb4⟩)
          have K4 := Lib.hid k4
          have HB4 := Lib.hid hb4
          clear k4 hb4
          go_wp2
          go_ret2
          exact ⟨_, rfl, by rw [EE.out, E4.out]; exact K4.out, below_step HBW.out HB4.out⟩
        · have HRW := Lib.hid hrow
          have HL3 := Lib.hid hl3
          have HC1 := Lib.hid hc1
          clear hrow hl3 hc1
          go_wp2_with fail
          (go_at_call 22; rw [← HL3.out]; refine (build_calls _ _ _ g 0 c3 _ (Nat.le_refl _) HTS.out HRW.out (by rw [HL3.out]; exact HC1.out) hc2 HNE'.out HZ.out).mono ?_; rintro e w4 ⟨v4, rfl, k4, hb4⟩)
          have K4 := Lib.hid k4
          have HB4 := Lib.hid hb4
          clear k4 hb4
          go_wp2
          go_ret2
          exact ⟨_, rfl, by rw [EE.out]; exact K4.out, below_step HBW.out HB4.out⟩
end Go.Proofs.YtdbdcnpajeflkaaDoor.Rope
