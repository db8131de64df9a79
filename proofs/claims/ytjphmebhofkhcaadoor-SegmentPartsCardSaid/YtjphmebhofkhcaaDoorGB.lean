/- The walks of letters.Right and rope.New: whether a text is right, and its rope. Conditions: texts of at most 2^40 bytes; Go's two tables of utf8 as they are laid. -/
import Derived.Test.YtjphmebhofkhcaaDoorGA
import Derived.Lib.OthersKept
import Derived.Lib.LaidU8T
import Derived.Lib.MapLaws
import Derived.Test.YtjphmebhofkhcaaDoorPSegAllx0
import Derived.Test.YtjphmebhofkhcaaDoorPSegAllx1
import Derived.Test.YtjphmebhofkhcaaDoorPSegAllx2
import Derived.Test.YtjphmebhofkhcaaDoorPSegAllx3
import Derived.Test.YtjphmebhofkhcaaDoorPSegAllx4
import Derived.Test.YtjphmebhofkhcaaDoorPSegAllx5
import Derived.Test.YtjphmebhofkhcaaDoorPSegAllx6
import Derived.Test.YtjphmebhofkhcaaDoorPSegAllx7
import Derived.Test.YtjphmebhofkhcaaDoorPSegAllx8
import Derived.Test.YtjphmebhofkhcaaDoorPSegAllx9
import Derived.Test.YtjphmebhofkhcaaDoorPSegAllx10
import Derived.Test.YtjphmebhofkhcaaDoorPSegAllx11
import Derived.Test.YtjphmebhofkhcaaDoorPSegAllx12
import Derived.Test.YtjphmebhofkhcaaDoorPl
import Derived.Lib.TrimAscii
import Derived.Deep.DeepCutAuto
namespace Go.Proofs.YtjphmebhofkhcaaDoor.Rope
open Go.RowKit Go.Proofs.YtjphmebhofkhcaaDoorW.PrintWords Go.Proofs.YtjphmebhofkhcaaDoorW.PrintLast Go.Proofs.YtjphmebhofkhcaaDoorW.PrintMore
set_option linter.unusedVariables false
set_option linter.unusedSimpArgs false
/-- Go's two tables of utf8 lie as they are laid. -/
def Tabs (w : World) : Prop := Lib.Utf8Tabs (Tryd.lays196_ren.g 3) (Tryd.lays196_ren.g 4) w
theorem Tabs.below {w w1 : World} (h : Tabs w) (hb : Below w.heap.size w w1) : Tabs w1 := Utf8Tabs_below h hb
theorem letters_Right (s : ByteArray) (w : World) (hs : s.size ≤ 1099511627776) (hT : Tabs w) : Calls Tryd.prog 61 #[.string s] w fun e w' => e = .returned (.bool (Lib.validD s.data.toList)) ∧ Below w.heap.size w w' := by
  have cV : Calls Tryd.prog 83 #[.string s] w _ := Any.utf8_ValidString Tryd.lays196 s w (by omega) hT
  generalize Lib.validD s.data.toList = V at cV ⊢
  go_enter Tryd.func61, Tryd.ntmps61
  go_wp2_with (go_at_call 83; refine cV.mono ?_; rintro e w' ⟨rfl, hb⟩)
  go_ret
  exact ⟨rfl, hb⟩
theorem info_ptr : (Tryd.prog.info? 27).map (fun i => (i.zero, i.size, i.bytes)) = some (some (.pointer none), 1, 8) := by kernel_rfl
theorem IsT.move {w w1 : World} (hm : ∀ (g : Nat) (cs : Array Value), w.heap[g]? = some (.cells cs 103 (0, 0)) → w1.heap[g]? = w.heap[g]?) : ∀ {t : T} {b : Nat}, IsT w t b → IsT w1 t b
  | .leaf s, b, h => (hm b _ h).trans h
  | .node l r, b, ⟨bl, br, h, hl, hr⟩ => ⟨bl, br, (hm b _ h).trans h, hl.move hm, hr.move hm⟩
theorem IsTs.move {w w1 : World} (hm : ∀ (g : Nat) (cs : Array Value), w.heap[g]? = some (.cells cs 103 (0, 0)) → w1.heap[g]? = w.heap[g]?) {ts : List T} {bs : List Nat} (h : IsTs w ts bs) : IsTs w1 ts bs := ⟨h.1, fun j t b h1 h2 => (h.2 j t b h1 h2).move hm⟩
theorem IsTs.snoc {w : World} {ts : List T} {bs : List Nat} (h : IsTs w ts bs) {t : T} {b : Nat} (ht : IsT w t b) : IsTs w (ts ++ [t]) (bs ++ [b]) := by
  refine ⟨by simp [h.1], fun j t' b' h1 h2 => ?_⟩
  rw [List.getElem?_append] at h1 h2
  by_cases hj : j < ts.length
  · rw [if_pos hj] at h1; rw [if_pos (by rw [← h.1]; exact hj)] at h2; exact h.2 j t' b' h1 h2
  · rw [if_neg hj] at h1; rw [if_neg (by rw [← h.1]; exact hj)] at h2
    rw [h.1] at h1
    generalize j - bs.length = i at h1 h2
    cases i with
    | zero => simp at h1 h2; subst h1; subst h2; exact ht
    | succ i => simp at h1
/-- The row of pointers that a call makes. -/
def OwnP (w : World) (base : Nat) (v : Value) (bs : List Nat) : Prop := w.ownsRow base 27 1 v bs.length (encs encP bs)
theorem OwnP.row {w : World} {base : Nat} {v : Value} {bs : List Nat} (h : OwnP w base v bs) :
    (v = .slice none 0 0 ∧ bs = []) ∨ ∃ g c, v = .slice (some ⟨g, 0, none⟩) bs.length c ∧ bs.length ≤ c ∧ c ≤ 9223372036854775807 ∧ RowP w g 0 bs := by
  obtain ⟨h1, h2 | ⟨g, cap, cur, e1, hg, hh, hc, hm, hs, ht⟩⟩ := h
  · exact .inl ⟨h2.1, List.eq_nil_of_length_eq_zero h2.2⟩
  · refine .inr ⟨g, cap, e1, hc, by simpa [maxLen] using hm, fun j x hj => ?_⟩
    rw [Nat.zero_add, blk_cell hh j]
    have hjl : j < bs.length := (List.getElem?_eq_some_iff.1 hj).1
    have : (cur.toList.take (bs.length * 1))[j]? = some (encP x) := by rw [ht, encs, List.getElem?_map, hj]; rfl
    rw [List.getElem?_take_of_lt (by omega)] at this
    simpa using this
theorem OwnP.move {w w1 : World} {base : Nat} {v : Value} {bs : List Nat} (h : OwnP w base v bs) (hm : ∀ (g : Nat) (cs : Array Value), w.heap[g]? = some (.cells cs 27 (0, 0)) → w1.heap[g]? = w.heap[g]?) : OwnP w1 base v bs :=
  own_move h fun k hk => by obtain ⟨cs, hc⟩ := own_typed h k hk; exact hm k cs hc
theorem OwnP.below {w w1 : World} {base : Nat} {v : Value} {bs : List Nat} (h : OwnP w base v bs) (hb : Below w.heap.size w w1) : OwnP w1 base v bs := h.move fun g cs hc => hb.block g (blk_lt hc)
theorem OwnP.none (w : World) (base : Nat) : OwnP w base (.slice none 0 0) [] := ⟨rfl, .inl ⟨rfl, rfl⟩⟩
/-- How many bytes a letter has that is written anew. -/
def encLen (s : ByteArray) (pos : Nat) : Nat := (Utf8.encode ((Utf8.decode s pos).1 : Int)).size
theorem encode_le (r : Int) : (Utf8.encode r).size ≤ 4 := by
  unfold Utf8.encode
  dsimp only
  repeat' split
  all_goals simp [ByteArray.size]
/-- The parts of a text: the state is how far it is read, where the part begins, and the parts ahead. -/
def newGo (s : ByteArray) : Nat → Nat → Nat → List T → List T × Nat
  | 0, _, frm, ts => (ts, frm)
  | f + 1, pos, frm, ts => if pos < s.size then
      (if (64 : Int) < (pos : Int) + (encLen s pos : Int) - (frm : Int) then newGo s f (pos + (Utf8.decode s pos).2) pos (ts ++ [.leaf (s.extract frm pos)]) else newGo s f (pos + (Utf8.decode s pos).2) frm ts) else (ts, frm)
def newL (s : ByteArray) : List T := if (newGo s s.size 0 0 []).2 < s.size then (newGo s s.size 0 0 []).1 ++ [.leaf (s.extract (newGo s s.size 0 0 []).2 s.size)] else (newGo s s.size 0 0 []).1
def newO (s : ByteArray) : Option T := if Lib.validD s.data.toList = true then buildL (newL s) else none
/-- The end of New, from the list on. -/
def RetB (t : Option T) (ok : Bool) (w : World) (e : Ending) (w' : World) : Prop := ∃ v, e = .returned (.tuple #[v, .bool ok]) ∧ IsR w' v t ∧ Below w.heap.size w w'
end Go.Proofs.YtjphmebhofkhcaaDoor.Rope
/- The walk of rope.New at a right text: its rope. Conditions: texts of at most 2^40 bytes; Go's two tables of utf8 as they are laid. -/
namespace Go.Proofs.YtjphmebhofkhcaaDoor.Rope
open Go.RowKit Go.Proofs.YtjphmebhofkhcaaDoorW.PrintWords Go.Proofs.YtjphmebhofkhcaaDoorW.PrintLast Go.Proofs.YtjphmebhofkhcaaDoorW.PrintMore
set_option linter.unusedVariables false
set_option linter.unusedSimpArgs false
/-- What holds at the head of New's loop. -/
def NewRel (w : World) (s : ByteArray) (k : Nat) (v u : Value) (wr : World) : Prop :=
  ∃ (pos f frm : Nat) (ts : List T) (bs : List Nat), wr.heap[k]? = some (.stringIter s pos) ∧ OwnP wr w.heap.size v bs ∧ IsTs wr ts bs ∧ u = .int .i64 (frm : Int) ∧ frm ≤ pos ∧ bs.length ≤ pos ∧
    newGo s f pos frm ts = newGo s s.size 0 0 [] ∧ s.size ≤ pos + f ∧ Below w.heap.size w wr
theorem new_end {w wr : World} {s : ByteArray} {k : Nat} {v u : Value} (h : NewRel w s k v u wr) (hp : ¬ wr.iterPos k < s.size) :
    ∃ (frm : Nat) (ts : List T) (bs : List Nat), OwnP wr w.heap.size v bs ∧ IsTs wr ts bs ∧ u = .int .i64 (frm : Int) ∧ newGo s s.size 0 0 [] = (ts, frm) ∧ Below w.heap.size w wr ∧ wr.heap[k]? = some (.stringIter s (wr.iterPos k)) := by
  obtain ⟨pos, f, frm, ts, bs, h1, h2, h3, h4, h5, h6, h7, h8, h9⟩ := h
  have e : wr.iterPos k = pos := by simp [World.iterPos, h1]
  rw [e] at hp
  refine ⟨frm, ts, bs, h2, h3, h4, ?_, h9, by rw [e]; exact h1⟩
  rw [← h7]
  cases f <;> simp [newGo, hp]
theorem iter_move {w : World} {k : Nat} {s : ByteArray} {pos : Nat} (hk : w.heap[k]? = some (.stringIter s pos)) (pos' : Nat) {t : TypeId} : ∀ (g : Nat) (cs : Array Value), w.heap[g]? = some (.cells cs t (0, 0)) → (w.iterAt k s pos').heap[g]? = w.heap[g]? := by
  intro g cs hg
  refine Lib.iterAt_other w k g s pos' ?_
  rintro rfl
  rw [hk] at hg
  cases hg
theorem grown_move {w w1 : World} {base : Nat} {v : Value} {bs : List Nat} (h : OwnP w base v bs) (hg : w.grownBy w1 v.ownBlock) {t : TypeId} (ht : t ≠ 27) : ∀ (g : Nat) (cs : Array Value), w.heap[g]? = some (.cells cs t (0, 0)) → w1.heap[g]? = w.heap[g]? := by
  intro g cs hc
  refine hg.block g (blk_lt hc) ?_
  intro e
  obtain ⟨cs', hc'⟩ := own_typed h g e.symm
  rw [hc] at hc'
  injection hc' with hc'
  injection hc' with _ hc'
  exact ht hc'
theorem grown_iter {w w1 : World} {base : Nat} {v : Value} {bs : List Nat} (h : OwnP w base v bs) (hg : w.grownBy w1 v.ownBlock) {k : Nat} {s : ByteArray} {pos : Nat} (hk : w.heap[k]? = some (.stringIter s pos)) : w1.heap[k]? = some (.stringIter s pos) := by
  refine (hg.block k (blk_lt hk) ?_).trans hk
  intro e
  obtain ⟨cs', hc'⟩ := own_typed h k e.symm
  rw [hk] at hc'
  cases hc'
/-- A part more: the relation behind the append. -/
theorem rel_more {w W w2 w3 : World} {s : ByteArray} {k pos f frm b : Nat} {v v3 : Value} {ts : List T} {bs : List Nat} {t : T} {pos' : Nat}
    (hk : W.heap[k]? = some (.stringIter s pos')) (ho : OwnP W w.heap.size v bs) (hi : IsTs W ts bs) (hb2 : Below W.heap.size W w2) (ht : IsT w2 t b) (hg : w2.grownBy w3 v.ownBlock)
    (ho3 : w3.ownsRow w.heap.size 27 1 v3 (bs ++ [b]).length (encs encP (bs ++ [b]))) (hB : Below w.heap.size w w3) (hfr : frm ≤ pos) (hl : bs.length ≤ pos) (hpp : pos + 1 ≤ pos')
    (hn : newGo s f pos' pos (ts ++ [t]) = newGo s s.size 0 0 []) (hsz : s.size ≤ pos' + f) : NewRel w s k v3 (.int .i64 (pos : Int)) w3 := by
  have ho2 := ho.below hb2
  exact ⟨pos', f, pos, ts ++ [t], bs ++ [b], grown_iter ho2 hg (blk_below hk hb2), ho3, ((hi.below hb2).snoc ht).move (grown_move ho2 hg (by decide)), rfl, by omega, by rw [List.length_append, List.length_singleton]; omega, hn, hsz, hB⟩
set_option maxRecDepth 1000000 in
set_option maxHeartbeats 4000000 in
theorem new_right (s : ByteArray) (w : World) (hs : s.size ≤ 1099511627776) (hT : Tabs w) (hv : Lib.validD s.data.toList = true) (hne : AllNe (newL s)) (hsum : sumB (newL s) = s.size) : Calls Tryd.prog 32 #[.string s] w (RetB (buildL (newL s)) true w) := by
  have cR := letters_Right s w hs hT
  rw [hv] at cR
  have HNE := Lib.hid hne
  have HSUM := Lib.hid hsum
  clear hv hT hne hsum
  go_enter Tryd.func32, Tryd.ntmps32
  go_wp2_with (go_at_call 61; refine cR.mono ?_; rintro e w1 ⟨rfl, hb⟩; have HB := Lib.hid hb; clear hb)
  clear cR
  generalize hk : w1.heap.size = k
  have HK := Lib.hid hk
  clear hk
  go_loopw [4, 5] (fun v u wr => NewRel w s k v u wr) (fun _ _ wr => s.size - wr.iterPos k)
  case atStart =>
    refine ⟨0, s.size, 0, [], [], ?_, OwnP.none _ _, ⟨rfl, fun j t b h1 _ => by simp at h1⟩, rfl, Nat.le_refl _, Nat.le_refl _, rfl, by omega, HB.out.alloc HB.out.size _⟩
    rw [← HK.out]; exact heap_alloc_new w1 _
  case round =>
    by_cases hp : wr.iterPos k < s.size
    · obtain ⟨pos, f, frm, ts, bs, hit, hown, hts, rfl, hfr, hbl, hgo, hsz, hbw⟩ := hrel
      have ep : wr.iterPos k = pos := by simp [World.iterPos, hit]
      rw [ep] at hp
      have hwd := Lib.decode_width_pos s pos hp
      have hE : (Utf8.encode ((Utf8.decode s pos).1 : Int)).size ≤ 4 := encode_le _
      have hnx : ∀ ty, (Instr.next (.pointer (some ⟨k, 0, none⟩)) true ty).run Tryd.prog wr = _ := fun ty => Lib.run_next_any_at wr k s pos ty hit hp
      have HIT := Lib.hid hit
      have HOWN := Lib.hid hown
      have HTS := Lib.hid hts
      have HGO := Lib.hid hgo
      have HBW := Lib.hid hbw
      have EP := Lib.hid ep
      clear hit hown hts hgo hbw ep
      go_upto_region 8 with (fail)
      generalize hr : (Utf8.decode s pos).1 = r at *
      generalize hw : (Utf8.decode s pos).2 = wd at *
      have HR := Lib.hid hr
      have HW := Lib.hid hw
      clear hr hw hnx
      have HBI := Lib.hid (Lib.below_iterAt HBW.out (show w.heap.size ≤ k by rw [← HK.out]; exact HB.out.size) s (pos + wd))
      have HITN := Lib.hid (Lib.iterAt_heap wr k s pos (pos + wd) HIT.out)
      have HOI := Lib.hid (HOWN.out.move (iter_move HIT.out (pos + wd)))
      have HTI := Lib.hid (HTS.out.move (iter_move HIT.out (pos + wd)))
      have HIP := Lib.hid (show (wr.iterAt k s (pos + wd)).iterPos k = pos + wd by simp [World.iterPos, HITN.out])
      by_cases c : (64 : Int) < (pos : Int) + ((Utf8.encode (r : Int)).size : Int) - (frm : Int)
      · have hd : decide ((64 : Int) < (pos : Int) + ((Utf8.encode (r : Int)).size : Int) - (frm : Int)) = true := by simpa using c
        have C := Lib.hid c
        clear c
        have hlen : (s.extract frm pos).size ≤ 1099511627776 := by rw [ByteArray.size_extract]; omega
        have HL := Lib.hid (show bs.length + 1 ≤ 1099511627777 by omega)
        have y1 : (frm : Int) ≤ (pos : Int) := by omega
        have y2 : (pos : Int) ≤ (s.size : Int) := by omega
        have y3 : (0 : Int) ≤ (frm : Int) := by omega
        clear HIT HOWN HTS HBW
        generalize hW : wr.iterAt k s (pos + wd) = W at *
        have HWI := Lib.hid hW
        clear hW
        go_wp2_with fail
        (go_at_call 62; refine (leaf_calls (s.extract frm pos) _ hlen).mono ?_; rintro e w2 ⟨b, rfl, ht, hb2⟩)
        have HT2 := Lib.hid ht
        have HB2 := Lib.hid hb2
        have HB2W := Lib.hid (below_step HBI.out hb2)
        have HO2 := Lib.hid (HOI.out.below hb2)
        clear ht hb2 hlen
        go_wp2_with (first | ((with_reducible refine gate_builtin (b := .append) rfl ?_); refine print_append_of (w0 := w) encP w.heap.size rfl _ _ 99 27 (.pointer none) 8 rfl Tryd.underlying99 info_ptr rfl (by decide) u4 bs b rfl rfl rfl ?h1 ?h2 ?h3 ?h4 ?_; (case h1 => exact HO2.out); (case h2 => exact HB2W.out); (case h3 => exact HB2W.out.size); (case h4 => have := HL.out; omega); intro v3 w3 ho3 hb3 hg3 hat3; have HO3 := Lib.hid ho3; have HB3 := Lib.hid hb3; have HG3 := Lib.hid hg3; clear ho3 hb3 hg3 hat3))
        go_roundw
        case rel =>
          have hE2 := HR.out
          refine rel_more HITN.out HOI.out HTI.out HB2.out HT2.out HG3.out HO3.out HB3.out hfr hbl (f := f - 1) (by omega) ?_ (by omega)
          have := HGO.out
          cases f with
          | zero => omega
          | succ f =>
            rw [newGo, if_pos hp, if_pos (by unfold encLen; rw [HR.out]; exact C.out), HW.out] at this
            exact this
        case measure =>
          have e1 := EP.out
          have e2 : w3.iterPos k = pos + wd := by
            have := grown_iter HO2.out HG3.out (blk_below HITN.out HB2.out)
            simp [World.iterPos, this]
          rw [e1, e2]
          omega
      · have hd : decide ((64 : Int) < (pos : Int) + ((Utf8.encode (r : Int)).size : Int) - (frm : Int)) = false := by simpa using c
        have C := Lib.hid c
        clear c
        go_wp2
        go_roundw
        case rel =>
          refine ⟨pos + wd, f - 1, frm, ts, bs, HITN.out, HOI.out, HTI.out, rfl, by omega, by omega, ?_, by omega, HBI.out⟩
          have := HGO.out
          cases f with
          | zero => omega
          | succ f =>
            rw [newGo, if_pos hp, if_neg (by unfold encLen; rw [HR.out]; exact C.out), HW.out] at this
            exact this
        case measure =>
          rw [EP.out, HIP.out]
          omega
    · obtain ⟨frm, ts, bs, hown, hts, rfl, hgo, hbw, hit⟩ := new_end hrel hp
      have hnx : ∀ ty, (Instr.next (.pointer (some ⟨k, 0, none⟩)) true ty).run Tryd.prog wr = _ := fun ty => Lib.run_next_end_at wr k s _ ty hit hp
      have HOWN := Lib.hid hown
      have HTS := Lib.hid hts
      have HBW := Lib.hid hbw
      have HGO := Lib.hid hgo
      clear hrel hit hown hts hbw hgo
      by_cases c : frm < s.size
      · have hd : decide ((frm : Int) < (s.size : Int)) = true := by simp; omega
        have E : newL s = ts ++ [.leaf (s.extract frm s.size)] := by unfold newL; rw [HGO.out, if_pos c]
        have hne := HNE.out
        have hsum := HSUM.out
        rw [E] at hne hsum
        have HNE' := Lib.hid hne
        have hz : sumB (ts ++ [.leaf (s.extract frm s.size)]) ≤ 1099511627776 := by omega
        have HZ := Lib.hid hz
        have hln : ts.length ≤ s.size := by
          have h1 : ∀ l : List T, AllNe l → l.length ≤ sumB l := by
            intro l
            induction l with
            | nil => intro _; exact Nat.le_refl _
            | cons x r ih =>
              intro hl
              have h2 := ih fun t ht => hl t (by simp [ht])
              have h3 := x.h_lt (hl x (by simp))
              simp only [sumB, List.map_cons, List.sum_cons, List.length_cons] at *
              omega
          have h4 := h1 _ hne
          rw [List.length_append] at h4
          omega
        have hlb := HTS.out.1
        have HL := Lib.hid (show bs.length + 1 ≤ 1099511627777 by omega)
        have hlen : (s.extract frm s.size).size ≤ 1099511627776 := by rw [ByteArray.size_extract]; omega
        have y1 : (frm : Int) ≤ (s.size : Int) := by omega
        have y3 : (0 : Int) ≤ (frm : Int) := by omega
        have EE := Lib.hid E
        clear E hne hsum hz hln hlb
        go_wp2_with fail
        (go_at_call 62; refine (leaf_calls (s.extract frm s.size) _ hlen).mono ?_; rintro e w2 ⟨b, rfl, ht, hb2⟩)
        have HT2 := Lib.hid ht
        have HB2 := Lib.hid hb2
        have HB2W := Lib.hid (below_step HBW.out hb2)
        have HO2 := Lib.hid (HOWN.out.below hb2)
        clear ht hb2 hlen
        go_wp2_with (first | (go_at_call 63; fail) | (first | ((with_reducible refine gate_builtin (b := .append) rfl ?_); refine print_append_of (w0 := w) encP w.heap.size rfl _ _ 99 27 (.pointer none) 8 rfl Tryd.underlying99 info_ptr rfl (by decide) u4 bs b rfl rfl rfl ?h1 ?h2 ?h3 ?h4 ?_; (case h1 => exact HO2.out); (case h2 => exact HB2W.out); (case h3 => exact HB2W.out.size); (case h4 => have := HL.out; omega); intro v3 w3 ho3 hb3 hg3 hat3; have HO3 := Lib.hid ho3; have HB3 := Lib.hid hb3; have HG3 := Lib.hid hg3; clear ho3 hb3 hg3 hat3)))
        have hts3 : IsTs w3 (ts ++ [.leaf (s.extract frm s.size)]) (bs ++ [b]) := ((HTS.out.below HB2.out).snoc HT2.out).move (grown_move HO2.out HG3.out (by decide))
        have HT3 := Lib.hid hts3
        have hl3 := hts3.1
        rcases OwnP.row (show OwnP w3 w.heap.size v3 (bs ++ [b]) from HO3.out) with ⟨_, e2⟩ | ⟨g, c3, rfl, hc1, hc2, hrow⟩
        · simp at e2
        · have HRW := Lib.hid hrow
          have HL3 := Lib.hid hl3
          have HC1 := Lib.hid hc1
          clear hrow hl3 hts3 hc1
          go_wp2_with fail
          (go_at_call 63; rw [← HL3.out]; refine (build_calls _ _ _ g 0 c3 _ (Nat.le_refl _) HT3.out HRW.out (by rw [HL3.out]; exact HC1.out) hc2 HNE'.out HZ.out).mono ?_; rintro e w4 ⟨v4, rfl, k4, hb4⟩)
          have K4 := Lib.hid k4
          have HB4 := Lib.hid hb4
          clear k4 hb4
          go_wp2
          go_ret2
          exact ⟨_, rfl, by rw [EE.out]; exact K4.out, below_step HB3.out HB4.out⟩
      · have hd : decide ((frm : Int) < (s.size : Int)) = false := by simp; omega
        have E : newL s = ts := by unfold newL; rw [HGO.out, if_neg c]
        have hne := HNE.out
        have hsum := HSUM.out
        rw [E] at hne hsum
        have HNE' := Lib.hid hne
        have hz : sumB ts ≤ 1099511627776 := by omega
        have HZ := Lib.hid hz
        have hl3 := HTS.out.1
        have EE := Lib.hid E
        clear E hne hsum hz
        rcases OwnP.row HOWN.out with ⟨rfl, e2⟩ | ⟨g, c3, rfl, hc1, hc2, hrow⟩
        · have e3 : ts = [] := List.eq_nil_of_length_eq_zero (by rw [hl3, e2]; rfl)
          have E4 : Hid (buildL ts = none) := by show _ = _; rw [e3, buildL, dif_pos (by simp)]; rfl
          clear e2 e3 hl3
          go_wp2_with fail
          (go_at_call 63; refine (build_nil none 0 _).mono ?_; rintro e w4 ⟨v4, rfl, k4, hb4⟩)
          have K4 := Lib.hid k4
          have HB4 := Lib.hid hb4
          clear k4 hb4
          go_wp2
          go_ret2
          exact ⟨_, rfl, by rw [EE.out, E4.out]; exact K4.out, below_step HBW.out HB4.out⟩
        · have HRW := Lib.hid hrow
          have HL3 := Lib.hid hl3
          have HC1 := Lib.hid hc1
          clear hrow hl3 hc1
          go_wp2_with fail
          (go_at_call 63; rw [← HL3.out]; refine (build_calls _ _ _ g 0 c3 _ (Nat.le_refl _) HTS.out HRW.out (by rw [HL3.out]; exact HC1.out) hc2 HNE'.out HZ.out).mono ?_; rintro e w4 ⟨v4, rfl, k4, hb4⟩)
          have K4 := Lib.hid k4
          have HB4 := Lib.hid hb4
          clear k4 hb4
          go_wp2
          go_ret2
          exact ⟨_, rfl, by rw [EE.out]; exact K4.out, below_step HBW.out HB4.out⟩
end Go.Proofs.YtjphmebhofkhcaaDoor.Rope
/- Plain laws on right texts: a text is right just where it is letters one behind the other; how many there are, and where each begins. No condition. -/
namespace Go.Proofs.YtjphmebhofkhcaaDoor.Rope
open Go.RowKit
set_option linter.unusedVariables false
set_option linter.unusedSimpArgs false
/-- The bytes of one letter. -/
def Lett (c : List UInt8) : Prop := (Lib.decodeL c).2 = c.length ∧ c ≠ [] ∧ ¬ ((Lib.decodeL c).1 = 65533 ∧ (Lib.decodeL c).2 = 1)
def Letts (cs : List (List UInt8)) : Prop := ∀ c ∈ cs, Lett c
theorem getD_app {c t : List UInt8} {i : Nat} (h : i < c.length) : (c ++ t).getD i 0 = c.getD i 0 := by
  simp [List.getD, List.getElem?_append_left h]
theorem getD_tk {c : List UInt8} {i n : Nat} (h : i < n) : (c.take n).getD i 0 = c.getD i 0 := by
  simp [List.getD, List.getElem?_take, h]
/-- A decoding that is right hangs on its own bytes alone. -/
theorem decode_own (l : List UInt8) (n : Nat) (b0 b1 b2 b3 : UInt8) (hne : l ≠ []) (hv : ¬ ((Lib.decodeL l).1 = 65533 ∧ (Lib.decodeL l).2 = 1)) (hn : (Lib.decodeL l).2 ≤ n)
    (h0 : b0 = l.getD 0 0) (h1 : 1 < (Lib.decodeL l).2 → b1 = l.getD 1 0) (h2 : 2 < (Lib.decodeL l).2 → b2 = l.getD 2 0) (h3 : 3 < (Lib.decodeL l).2 → b3 = l.getD 3 0) :
    Lib.decodeN n b0.toNat b1.toNat b2.toNat b3.toNat = Lib.decodeL l := by
  subst h0
  rw [Lib.decodeL_N] at *
  rcases Lib.decodeN_shape l.length (l.getD 0 0).toNat (l.getD 1 0).toNat (l.getD 2 0).toNat (l.getD 3 0).toNat with ⟨c, e⟩ | ⟨c1, c2, c3, cv, e⟩ | ⟨c1, c2, c3, c4, cv, cs, e⟩ | ⟨c1, c2, c3, c4, c5, cv, cw, e⟩ | e
  · rw [e]; unfold Lib.decodeN; rw [if_pos c]
  · rw [e] at hn h1 ⊢
    have e1 := h1 (by show 1 < 2; omega)
    subst e1
    have hn' : 2 ≤ n := hn
    unfold Lib.decodeN
    rw [if_neg (by omega), if_pos ⟨c1, by omega, c3⟩, if_pos cv]
  · rw [e] at hn h1 h2 ⊢
    have e1 := h1 (by show 1 < 3; omega)
    have e2 := h2 (by show 2 < 3; omega)
    subst e1; subst e2
    have hn' : 3 ≤ n := hn
    have k0 := (l.getD 0 0).toNat_lt
    unfold Lib.decodeN
    rw [if_neg (by omega), if_neg (by omega), if_pos ⟨c1, ⟨by omega, c3⟩, by omega, c4⟩, if_pos ⟨cv, by omega⟩]
  · rw [e] at hn h1 h2 h3 ⊢
    have e1 := h1 (by show 1 < 4; omega)
    have e2 := h2 (by show 2 < 4; omega)
    have e3 := h3 (by show 3 < 4; omega)
    subst e1; subst e2; subst e3
    have hn' : 4 ≤ n := hn
    have k0 := (l.getD 0 0).toNat_lt
    unfold Lib.decodeN
    rw [if_neg (by omega), if_neg (by omega), if_neg (by omega), if_pos ⟨c1, ⟨by omega, c3⟩, ⟨by omega, c4⟩, by omega, c5⟩, if_pos ⟨cv, by omega⟩]
  · rw [e] at hv; exact absurd ⟨rfl, rfl⟩ hv
theorem lett_append {c : List UInt8} (h : Lett c) (t : List UInt8) : Lib.decodeL (c ++ t) = Lib.decodeL c := by
  obtain ⟨h1, h2, h3⟩ := h
  have hl : 0 < c.length := List.length_pos_iff.2 h2
  rw [Lib.decodeL_N (c ++ t)]
  refine decode_own c _ _ _ _ _ h2 h3 (by rw [h1, List.length_append]; omega) (getD_app hl) (fun k => getD_app (by omega)) (fun k => getD_app (by omega)) (fun k => getD_app (by omega))
/-- The first letter of bytes that begin with one. -/
theorem lett_take {l : List UInt8} (hne : l ≠ []) (hv : ¬ ((Lib.decodeL l).1 = 65533 ∧ (Lib.decodeL l).2 = 1)) : Lett (l.take (Lib.decodeL l).2) ∧ Lib.decodeL (l.take (Lib.decodeL l).2) = Lib.decodeL l := by
  have hw := Lib.decodeL_le l hne
  have hp := Lib.decodeL_width l
  have hlen : (l.take (Lib.decodeL l).2).length = (Lib.decodeL l).2 := by rw [List.length_take]; omega
  have e : Lib.decodeL (l.take (Lib.decodeL l).2) = Lib.decodeL l := by
    rw [Lib.decodeL_N (l.take _), hlen]
    exact decode_own l _ _ _ _ _ hne hv (Nat.le_refl _) (getD_tk (by omega)) (fun k => getD_tk k) (fun k => getD_tk k) (fun k => getD_tk k)
  refine ⟨⟨by rw [e, hlen], ?_, by rw [e]; exact hv⟩, e⟩
  intro h; rw [h] at hlen; simp at hlen; omega
theorem validGo_letts : ∀ (n : Nat) (l : List UInt8), l.length ≤ n → Lib.validGoD n l = true → ∃ cs, Letts cs ∧ l = cs.flatten
  | 0, l, hn, _ => ⟨[], fun _ h => by simp at h, by simp [List.eq_nil_of_length_eq_zero (Nat.le_zero.1 hn)]⟩
  | n + 1, l, hn, h => by
    by_cases hne : l = []
    · exact ⟨[], fun _ h => by simp at h, by simp [hne]⟩
    · rw [Lib.validGoD, if_neg hne] at h
      by_cases hb : (Lib.decodeL l).1 = 65533 ∧ (Lib.decodeL l).2 = 1
      · rw [if_pos hb] at h; cases h
      · rw [if_neg hb] at h
        have hw := Lib.decodeL_le l hne
        have hp := Lib.decodeL_width l
        obtain ⟨cs, h1, h2⟩ := validGo_letts n (l.drop (Lib.decodeL l).2) (by rw [List.length_drop]; omega) h
        refine ⟨l.take (Lib.decodeL l).2 :: cs, fun c hc => ?_, ?_⟩
        · rcases List.mem_cons.1 hc with rfl | hc
          · exact (lett_take hne hb).1
          · exact h1 c hc
        · rw [List.flatten_cons, ← h2, List.take_append_drop]
theorem Lett.pos {c : List UInt8} (h : Lett c) : 0 < c.length := List.length_pos_iff.2 h.2.1
theorem Lett.le {c : List UInt8} (h : Lett c) : c.length ≤ 4 := by
  rw [← h.1, Lib.decodeL_N]
  rcases Lib.decodeN_shape c.length (c.getD 0 0).toNat (c.getD 1 0).toNat (c.getD 2 0).toNat (c.getD 3 0).toNat with ⟨_, e⟩ | ⟨_, _, _, _, e⟩ | ⟨_, _, _, _, _, _, e⟩ | ⟨_, _, _, _, _, _, _, e⟩ | e <;> rw [e] <;> simp
theorem letts_validGo : ∀ (n : Nat) (cs : List (List UInt8)), Letts cs → cs.flatten.length ≤ n → Lib.validGoD n cs.flatten = true
  | 0, _, _, _ => rfl
  | n + 1, [], _, _ => by simp [Lib.validGoD]
  | n + 1, c :: r, h, hn => by
    have hc := h c (by simp)
    have hp := hc.pos
    rw [List.flatten_cons] at *
    rw [Lib.validGoD, if_neg (by intro e; rw [List.append_eq_nil_iff] at e; exact hc.2.1 e.1), lett_append hc, if_neg hc.2.2, hc.1, List.drop_left]
    exact letts_validGo n r (fun d hd => h d (by simp [hd])) (by rw [List.length_append] at hn; omega)
theorem validD_iff (l : List UInt8) : Lib.validD l = true ↔ ∃ cs, Letts cs ∧ l = cs.flatten :=
  ⟨fun h => validGo_letts _ l (Nat.le_refl _) h, fun ⟨cs, h, e⟩ => by rw [e]; exact letts_validGo _ cs h (Nat.le_refl _)⟩
/-! what stands at a place -/
theorem decode_at_letts {s : ByteArray} {pos : Nat} {c : List UInt8} {r : List (List UInt8)} (h : s.data.toList.drop pos = (c :: r).flatten) (hc : Lett c) : (Utf8.decode s pos).2 = c.length ∧ Utf8.decode s pos = Lib.decodeL c := by
  rw [← Lib.decodeL_drop, h, List.flatten_cons, lett_append hc]
  exact ⟨hc.1, rfl⟩
theorem drop_letts {s : ByteArray} {pos : Nat} {c : List UInt8} {r : List (List UInt8)} (h : s.data.toList.drop pos = (c :: r).flatten) : s.data.toList.drop (pos + c.length) = r.flatten := by
  rw [← List.drop_drop, h, List.flatten_cons, List.drop_left]
theorem pos_lt {s : ByteArray} {pos : Nat} {c : List UInt8} {r : List (List UInt8)} (h : s.data.toList.drop pos = (c :: r).flatten) (hc : Lett c) : pos < s.size := by
  have := congrArg List.length h
  rw [List.length_drop, List.flatten_cons, List.length_append] at this
  have := hc.pos
  have e : s.data.toList.length = s.size := by simp
  omega
theorem pos_end {s : ByteArray} {pos : Nat} (h : s.data.toList.drop pos = ([] : List (List UInt8)).flatten) : ¬ pos < s.size := by
  have := congrArg List.length h
  rw [List.length_drop] at this
  have e : s.data.toList.length = s.size := by simp
  simp at this
  omega
theorem count_letts (s : ByteArray) : ∀ (cs : List (List UInt8)) (f pos : Nat), Letts cs → s.data.toList.drop pos = cs.flatten → cs.length ≤ f → Lib.runeCountFrom s f pos = cs.length
  | [], f, pos, _, h, _ => Lib.runeCountFrom_end s f pos (pos_end h)
  | c :: r, 0, pos, _, _, hf => by simp at hf
  | c :: r, f + 1, pos, hl, h, hf => by
    have hc := hl c (by simp)
    rw [Lib.runeCountFrom, if_pos (pos_lt h hc), (decode_at_letts h hc).1, count_letts s r f _ (fun d hd => hl d (by simp [hd])) (drop_letts h) (by simpa using hf)]
    simp; omega
theorem letts_le : ∀ cs : List (List UInt8), Letts cs → cs.length ≤ cs.flatten.length
  | [], _ => Nat.le_refl _
  | c :: r, h => by
    have := letts_le r (fun d hd => h d (by simp [hd]))
    have := (h c (by simp)).pos
    rw [List.flatten_cons, List.length_append, List.length_cons]; omega
theorem runeCount_letts {s : ByteArray} {cs : List (List UInt8)} (hl : Letts cs) (h : s.data.toList = cs.flatten) : Lib.runeCount s = cs.length := by
  have e : s.data.toList.length = s.size := by simp
  have k := letts_le cs hl
  rw [← h, e] at k
  exact count_letts s cs s.size 0 hl (by simpa using h) k
theorem byte_letts (s : ByteArray) : ∀ (cs : List (List UInt8)) (f k pos : Nat), Letts cs → s.data.toList.drop pos = cs.flatten → pos ≤ s.size → cs.length ≤ f → byteFrom s f k pos = pos + (cs.take k).flatten.length
  | [], f, k, pos, _, h, hp, _ => by
    have := pos_end h
    have e : byteFrom s f k pos = s.size := by cases f <;> simp [byteFrom, this]
    rw [e]; simp; omega
  | c :: r, 0, k, pos, _, _, _, hf => by simp at hf
  | c :: r, f + 1, k, pos, hl, h, hp, hf => by
    have hc := hl c (by simp)
    have hlt := pos_lt h hc
    rw [byteFrom, if_pos hlt]
    cases k with
    | zero => simp
    | succ k =>
      have hle : pos + c.length ≤ s.size := by
        have := congrArg List.length h
        rw [List.length_drop, List.flatten_cons, List.length_append] at this
        have e : s.data.toList.length = s.size := by simp
        omega
      rw [if_neg (by omega), (decode_at_letts h hc).1, Nat.add_sub_cancel, byte_letts s r f k _ (fun d hd => hl d (by simp [hd])) (drop_letts h) hle (by simpa using hf)]
      rw [List.take_succ_cons, List.flatten_cons, List.length_append]; omega
theorem byteAt_letts {s : ByteArray} {cs : List (List UInt8)} (hl : Letts cs) (h : s.data.toList = cs.flatten) (a : Int) : byteAt s a = (cs.take a.toNat).flatten.length := by
  unfold byteAt
  split
  · rename_i h0
    have : a.toNat = 0 := by omega
    rw [this]; simp
  · have e : s.data.toList.length = s.size := by simp
    have k := letts_le cs hl
    rw [← h, e] at k
    rw [byte_letts s cs s.size a.toNat 0 hl (by simpa using h) (Nat.zero_le _) k, Nat.zero_add]
theorem flatten_take_drop (cs : List (List UInt8)) (k : Nat) : cs.flatten = (cs.take k).flatten ++ (cs.drop k).flatten := by
  rw [← List.flatten_append, List.take_append_drop]
theorem extract_head {s : ByteArray} {cs : List (List UInt8)} (h : s.data.toList = cs.flatten) (k : Nat) : (s.extract 0 (cs.take k).flatten.length).data.toList = (cs.take k).flatten := by
  rw [Lib.extract_data, h, List.drop_zero, Nat.sub_zero]
  rw [flatten_take_drop cs k, List.take_left]
theorem extract_tail {s : ByteArray} {cs : List (List UInt8)} (h : s.data.toList = cs.flatten) (k : Nat) : (s.extract (cs.take k).flatten.length s.size).data.toList = (cs.drop k).flatten := by
  have e : s.data.toList.length = s.size := by simp
  rw [Lib.extract_data, h]
  rw [flatten_take_drop cs k, List.drop_left]
  apply List.take_of_length_le
  rw [← e, h, flatten_take_drop cs k, List.length_append]
  omega
end Go.Proofs.YtjphmebhofkhcaaDoor.Rope
/- Plain laws on ropes: what is made of them has the letters that it should have, in a tree as it may be. No condition. -/
namespace Go.Proofs.YtjphmebhofkhcaaDoor.Rope
open Go.RowKit Go.Proofs.YtjphmebhofkhcaaDoorW.PrintWords Go.Proofs.YtjphmebhofkhcaaDoorW.PrintLast Go.Proofs.YtjphmebhofkhcaaDoorW.PrintMore
set_option linter.unusedVariables false
set_option linter.unusedSimpArgs false
/-- A rope as it may be, of these letters. -/
def Good : T → List (List UInt8) → Prop
  | .leaf s, cs => s.data.toList = cs.flatten ∧ Letts cs ∧ 0 < s.size ∧ s.size ≤ 64
  | .node l r, cs => ∃ c1 c2, cs = c1 ++ c2 ∧ Good l c1 ∧ Good r c2 ∧ l.h ≤ r.h + 1 ∧ r.h ≤ l.h + 1
def GoodO : Option T → List (List UInt8) → Prop
  | none, cs => cs = []
  | some t, cs => Good t cs
theorem Good.ne : ∀ {t : T} {cs : List (List UInt8)}, Good t cs → t.Ne
  | .leaf s, cs, h => h.2.2.1
  | .node l r, cs, ⟨c1, c2, _, h1, h2, _, _⟩ => ⟨h1.ne, h2.ne⟩
theorem GoodO.ne {t : Option T} {cs : List (List UInt8)} (h : GoodO t cs) : NeO t := by
  cases t with
  | none => trivial
  | some t => exact Good.ne (t := t) h
theorem Good.letts : ∀ {t : T} {cs : List (List UInt8)}, Good t cs → Letts cs
  | .leaf s, cs, h => h.2.1
  | .node l r, cs, ⟨c1, c2, e, h1, h2, _, _⟩ => fun c hc => by
    rw [e] at hc
    rcases List.mem_append.1 hc with hc | hc
    · exact h1.letts c hc
    · exact h2.letts c hc
theorem GoodO.letts {t : Option T} {cs : List (List UInt8)} (h : GoodO t cs) : Letts cs := by
  cases t with
  | none => have : cs = [] := h; subst this; intro c hc; simp at hc
  | some t => exact Good.letts (t := t) h
theorem Good.runes : ∀ {t : T} {cs : List (List UInt8)}, Good t cs → t.runes = cs.length
  | .leaf s, cs, h => runeCount_letts h.2.1 h.1
  | .node l r, cs, ⟨c1, c2, e, h1, h2, _, _⟩ => by rw [e, List.length_append, ← h1.runes, ← h2.runes]; rfl
theorem GoodO.runes {t : Option T} {cs : List (List UInt8)} (h : GoodO t cs) : runesO t = cs.length := by
  cases t with
  | none => have : cs = [] := h; subst this; rfl
  | some t => exact Good.runes (t := t) h
theorem Good.text : ∀ {t : T} {cs : List (List UInt8)}, Good t cs → (t.parts.map (·.data.toList)).flatten = cs.flatten
  | .leaf s, cs, h => by simp [T.parts, h.1]
  | .node l r, cs, ⟨c1, c2, e, h1, h2, _, _⟩ => by rw [e, List.flatten_append, ← h1.text, ← h2.text]; simp [T.parts]
theorem GoodO.text {t : Option T} {cs : List (List UInt8)} (h : GoodO t cs) : textL t = cs.flatten := by
  cases t with
  | none => have : cs = [] := h; subst this; rfl
  | some t => exact Good.text (t := t) h
/-- two, of heights that differ by 1 at most. -/
theorem two_h (left : Bool) (a b : T) : (two left a b).h = max a.h b.h + 1 := by cases left <;> simp [two, T.h, Nat.max_comm]
def cat (left : Bool) (a b : List (List UInt8)) : List (List UInt8) := if left then b ++ a else a ++ b
theorem two_good {left : Bool} {a b : T} {ca cb : List (List UInt8)} (ha : Good a ca) (hb : Good b cb) (h1 : a.h ≤ b.h + 1) (h2 : b.h ≤ a.h + 1) : Good (two left a b) (cat left ca cb) := by
  cases left
  · exact ⟨ca, cb, rfl, ha, hb, h1, h2⟩
  · exact ⟨cb, ca, rfl, hb, ha, h2, h1⟩
theorem two_inv {left : Bool} {a b : T} {c : List (List UInt8)} (h : Good (two left a b) c) : ∃ ca cb, c = cat left ca cb ∧ Good a ca ∧ Good b cb ∧ a.h ≤ b.h + 1 ∧ b.h ≤ a.h + 1 := by
  cases left
  · obtain ⟨c1, c2, e, h1, h2, h3, h4⟩ := h; exact ⟨c1, c2, e, h1, h2, h3, h4⟩
  · obtain ⟨c1, c2, e, h1, h2, h3, h4⟩ := h; exact ⟨c2, c1, e, h2, h1, h4, h3⟩
theorem cat_assoc (left : Bool) (a b c : List (List UInt8)) : cat left (cat left a b) c = cat left a (cat left b c) := by cases left <;> simp [cat]
/-- A side s that stays, and t, that is as high as the side r was, or 1 higher (r: 1 higher or lower than s at most). -/
theorem fix_good {s t : T} {left : Bool} {cs ct : List (List UInt8)} {r : Nat} (hs : Good s cs) (ht : Good t ct) (h1 : s.h ≤ r + 1) (h2 : r ≤ s.h + 1) (h3 : r ≤ t.h) (h4 : t.h ≤ r + 1) :
    Good (fix s t left) (cat left cs ct) ∧ max s.h r + 1 ≤ (fix s t left).h ∧ (fix s t left).h ≤ max s.h r + 2 := by
  rcases fix_cases s t left with ⟨h5, e⟩ | ⟨n, f, rfl, h5, h6, e⟩ | ⟨n, o, f, rfl, h5, h6, e⟩ <;> rw [e]
  · exact ⟨two_good hs ht (by omega) (by omega), by rw [two_h]; omega, by rw [two_h]; omega⟩
  · obtain ⟨cn, cf, rfl, hn, hf, k1, k2⟩ := two_inv ht
    rw [two_h] at h3 h4 h5
    rw [← cat_assoc]
    have hx := two_h left s n
    exact ⟨two_good (two_good hs hn (by omega) (by omega)) hf (by omega) (by omega), by rw [two_h]; omega, by rw [two_h]; omega⟩
  · obtain ⟨cn, cf, rfl, hn, hf, k1, k2⟩ := two_inv ht
    obtain ⟨ci, co, rfl, hi, ho, k3, k4⟩ := two_inv hn
    rw [two_h, two_h] at h3 h4 h5
    rw [two_h] at h6 k1 k2
    have hx := two_h left s n
    have hy := two_h left o f
    rw [cat_assoc, ← cat_assoc]
    exact ⟨two_good (two_good hs hi (by omega) (by omega)) (two_good ho hf (by omega) (by omega)) (by omega) (by omega), by rw [two_h]; omega, by rw [two_h]; omega⟩
theorem leaf_of_h {t : T} (h : t.h = 0) : ∃ s, t = .leaf s := by
  cases t with
  | leaf s => exact ⟨s, rfl⟩
  | node l r => simp [T.h] at h
theorem join_good (n : Nat) : ∀ (a b : T) (ca cb : List (List UInt8)), a.h + b.h ≤ n → Good a ca → Good b cb → Good (join a b) (ca ++ cb) ∧ max a.h b.h ≤ (join a b).h ∧ (join a b).h ≤ max a.h b.h + 1 := by
  induction n with
  | zero =>
    intro a b ca cb hn ha hb
    obtain ⟨x, rfl⟩ := leaf_of_h (t := a) (by omega)
    obtain ⟨y, rfl⟩ := leaf_of_h (t := b) (by omega)
    rw [join.eq_def, if_neg (by omega), if_neg (by omega)]
    split
    · rename_i h0
      simp only [T.bytes] at h0
      refine ⟨⟨?_, fun c hc => ?_, ?_, ?_⟩, by simp [T.h], by simp [T.h]⟩
      · simp only [T.text]; rw [List.flatten_append, ← ha.1, ← hb.1]; simp
      · rcases List.mem_append.1 hc with hc | hc
        · exact ha.2.1 c hc
        · exact hb.2.1 c hc
      · simp only [T.text, ByteArray.size_append]; have := ha.2.2.1; omega
      · simp only [T.text, ByteArray.size_append]; omega
    · exact ⟨⟨ca, cb, rfl, ha, hb, by simp [T.h], by simp [T.h]⟩, by simp [T.h], by simp [T.h]⟩
  | succ n ih =>
    intro a b ca cb hn ha hb
    rw [join.eq_def]
    split
    · rename_i h1
      cases a with
      | leaf x => simp [T.h] at h1
      | node al ar =>
        have hh : (T.node al ar).h = max al.h ar.h + 1 := rfl
        obtain ⟨c1, c2, rfl, g1, g2, k1, k2⟩ := ha
        obtain ⟨j1, j2, j3⟩ := ih ar b c2 cb (by omega) g2 hb
        have := fix_good (left := false) (r := ar.h) g1 j1 (by omega) (by omega) (by omega) (by omega)
        refine ⟨by rw [List.append_assoc]; exact this.1, ?_, ?_⟩
        · show max (T.node al ar).h b.h ≤ (fix al (join ar b) false).h; omega
        · show (fix al (join ar b) false).h ≤ max (T.node al ar).h b.h + 1; omega
    · rename_i h1
      split
      · rename_i h2
        cases b with
        | leaf x => simp [T.h] at h2
        | node bl br =>
          have hh : (T.node bl br).h = max bl.h br.h + 1 := rfl
          obtain ⟨c1, c2, rfl, g1, g2, k1, k2⟩ := hb
          obtain ⟨j1, j2, j3⟩ := ih a bl ca c1 (by omega) ha g1
          have := fix_good (left := true) (r := bl.h) g2 j1 (by omega) (by omega) (by omega) (by omega)
          refine ⟨by rw [← List.append_assoc]; exact this.1, ?_, ?_⟩
          · show max a.h (T.node bl br).h ≤ (fix br (join a bl) true).h; omega
          · show (fix br (join a bl) true).h ≤ max a.h (T.node bl br).h + 1; omega
      · rename_i h2
        split
        · rename_i h0
          obtain ⟨x, rfl⟩ := leaf_of_h h0.1
          obtain ⟨y, rfl⟩ := leaf_of_h h0.2.1
          simp only [T.bytes] at h0
          refine ⟨⟨?_, fun c hc => ?_, ?_, ?_⟩, by simp [T.h], by simp [T.h]⟩
          · simp only [T.text]; rw [List.flatten_append, ← ha.1, ← hb.1]; simp
          · rcases List.mem_append.1 hc with hc | hc
            · exact ha.2.1 c hc
            · exact hb.2.1 c hc
          · simp only [T.text, ByteArray.size_append]; have := ha.2.2.1; omega
          · simp only [T.text, ByteArray.size_append]; omega
        · exact ⟨⟨ca, cb, rfl, ha, hb, by omega, by omega⟩, by simp only [T.h]; omega, by simp only [T.h]; omega⟩
theorem joinO_good {a b : Option T} {ca cb : List (List UInt8)} (ha : GoodO a ca) (hb : GoodO b cb) : GoodO (joinO a b) (ca ++ cb) := by
  cases a with
  | none => have : ca = [] := ha; subst this; exact hb
  | some a =>
    cases b with
    | none => have : cb = [] := hb; subst this; rw [List.append_nil]; exact ha
    | some b => exact (join_good _ a b ca cb (Nat.le_refl _) ha hb).1
theorem split_good : ∀ (t : T) (cs : List (List UInt8)) (a : Int), Good t cs → GoodO (splitT t a).1 (cs.take a.toNat) ∧ GoodO (splitT t a).2 (cs.drop a.toNat)
  | .leaf s, cs, a, h => by
    have hr := Good.runes (t := .leaf s) h
    have hr' : Lib.runeCount s = cs.length := hr
    unfold splitT
    by_cases h0 : a ≤ 0
    · rw [if_pos h0]
      have : a.toNat = 0 := by omega
      rw [this]; exact ⟨rfl, h⟩
    · by_cases h1 : (Lib.runeCount s : Int) ≤ a
      · rw [if_neg h0, if_pos h1, List.take_of_length_le (by omega), List.drop_eq_nil_of_le (by omega)]
        exact ⟨h, rfl⟩
      · rw [if_neg h0, if_neg h1]
        have bm := byteAt_mid h0 h1
        obtain ⟨h2, h3, h4, h5⟩ := h
        have eb := byteAt_letts h3 h2 a
        refine ⟨⟨?_, fun c hc => h3 c (List.mem_of_mem_take hc), ?_, ?_⟩, ⟨?_, fun c hc => h3 c (List.mem_of_mem_drop hc), ?_, ?_⟩⟩
        · rw [eb]; exact extract_head h2 _
        · rw [ByteArray.size_extract]; omega
        · rw [ByteArray.size_extract]; omega
        · rw [eb]; exact extract_tail h2 _
        · rw [ByteArray.size_extract]; omega
        · rw [ByteArray.size_extract]; omega
  | .node l r, cs, a, h => by
    have hr := Good.runes (t := .node l r) h
    unfold splitT
    by_cases h0 : a ≤ 0
    · rw [if_pos h0]
      have : a.toNat = 0 := by omega
      rw [this]; exact ⟨rfl, h⟩
    · by_cases h1 : ((T.node l r).runes : Int) ≤ a
      · rw [if_neg h0, if_pos h1, List.take_of_length_le (by omega), List.drop_eq_nil_of_le (by omega)]
        exact ⟨h, rfl⟩
      · rw [if_neg h0, if_neg h1]
        obtain ⟨c1, c2, rfl, g1, g2, k1, k2⟩ := h
        have rl := Good.runes g1
        by_cases h2 : a < (l.runes : Int)
        · rw [if_pos h2]
          obtain ⟨s1, s2⟩ := split_good l c1 a g1
          refine ⟨?_, ?_⟩
          · show GoodO (splitT l a).1 _
            rw [List.take_append_of_le_length (by omega)]; exact s1
          · show GoodO (joinO (splitT l a).2 (some r)) _
            rw [List.drop_append_of_le_length (by omega)]; exact joinO_good s2 g2
        · rw [if_neg h2]
          obtain ⟨s1, s2⟩ := split_good r c2 (a - (l.runes : Int)) g2
          have e : a.toNat = c1.length + (a - (l.runes : Int)).toNat := by omega
          refine ⟨?_, ?_⟩
          · show GoodO (joinO (some l) (splitT r (a - (l.runes : Int))).1) _
            rw [e, List.take_append, List.take_of_length_le (by omega), Nat.add_sub_cancel_left]; exact joinO_good (a := some l) g1 s1
          · show GoodO (splitT r (a - (l.runes : Int))).2 _
            rw [e, List.drop_append, List.drop_eq_nil_of_le (by omega), List.nil_append, Nat.add_sub_cancel_left]; exact s2
theorem splitO_good {t : Option T} {cs : List (List UInt8)} (h : GoodO t cs) (a : Int) : GoodO (splitO t a).1 (cs.take a.toNat) ∧ GoodO (splitO t a).2 (cs.drop a.toNat) := by
  cases t with
  | none => have : cs = [] := h; subst this; simp [splitO, GoodO]
  | some t => exact split_good t cs a h
theorem putO_good {t x : Option T} {cs xs : List (List UInt8)} (h : GoodO t cs) (hx : GoodO x xs) (a : Int) : GoodO (putO t a x) (cs.take a.toNat ++ xs ++ cs.drop a.toNat) :=
  joinO_good (joinO_good (splitO_good h a).1 hx) (splitO_good h a).2
theorem mx0 (a : Int) : (mx a 0).toNat = a.toNat ∧ 0 ≤ mx a 0 ∧ (mx a 0 = a ∨ (a < 0 ∧ mx a 0 = 0)) := by unfold mx; split <;> omega
theorem cutO_good {t : Option T} {cs : List (List UInt8)} (h : GoodO t cs) (a b : Int) : GoodO (cutO t a b) ((cs.take b.toNat).drop a.toNat) := by
  unfold cutO
  obtain ⟨m1, m2, m3⟩ := mx0 a
  split
  · have : (cs.take b.toNat).drop a.toNat = [] := by apply List.drop_eq_nil_of_le; rw [List.length_take]; omega
    rw [this]; rfl
  · have := (splitO_good (splitO_good h b).1 (mx a 0)).2
    rw [m1] at this; exact this
/-! the parts of a new rope -/
def GoodsL : List T → List (List UInt8) → Prop
  | [], cs => cs = []
  | t :: r, cs => ∃ c1 c2, cs = c1 ++ c2 ∧ Good t c1 ∧ GoodsL r c2
theorem GoodsL.snoc : ∀ {ts : List T} {cs : List (List UInt8)} {t : T} {c : List (List UInt8)}, GoodsL ts cs → Good t c → GoodsL (ts ++ [t]) (cs ++ c)
  | [], cs, t, c, h, ht => by have : cs = [] := h; subst this; exact ⟨c, [], by simp, ht, rfl⟩
  | x :: r, cs, t, c, ⟨c1, c2, e, hx, hr⟩, ht => ⟨c1, c2 ++ c, by rw [e, List.append_assoc], hx, hr.snoc ht⟩
theorem GoodsL.split : ∀ {ts : List T} {cs : List (List UInt8)} (k : Nat), GoodsL ts cs → ∃ c1 c2, cs = c1 ++ c2 ∧ GoodsL (ts.take k) c1 ∧ GoodsL (ts.drop k) c2
  | ts, cs, 0, h => ⟨[], cs, rfl, rfl, h⟩
  | [], cs, k + 1, h => ⟨[], cs, rfl, rfl, h⟩
  | t :: r, cs, k + 1, ⟨c1, c2, e, ht, hr⟩ => by
    obtain ⟨d1, d2, e2, h1, h2⟩ := hr.split k
    exact ⟨c1 ++ d1, d2, by rw [e, e2, List.append_assoc], ⟨c1, d1, rfl, ht, h1⟩, h2⟩
theorem GoodsL.ne : ∀ {ts : List T} {cs : List (List UInt8)}, GoodsL ts cs → AllNe ts
  | [], _, _ => fun _ h => by simp at h
  | t :: r, _, ⟨c1, c2, _, ht, hr⟩ => fun x hx => by
    rcases List.mem_cons.1 hx with rfl | hx
    · exact ht.ne
    · exact hr.ne x hx
theorem Good.bytes {t : T} {cs : List (List UInt8)} (h : Good t cs) : t.bytes = cs.flatten.length := by rw [← h.text, T.text_length]
theorem GoodO.bytes {t : Option T} {cs : List (List UInt8)} (h : GoodO t cs) : bytesO t = cs.flatten.length := by rw [← h.text, textL_length]
theorem GoodsL.sum : ∀ {ts : List T} {cs : List (List UInt8)}, GoodsL ts cs → sumB ts = cs.flatten.length
  | [], cs, h => by have : cs = [] := h; subst this; rfl
  | t :: r, cs, ⟨c1, c2, e, ht, hr⟩ => by
    have := hr.sum
    rw [e, List.flatten_append, List.length_append, ← this, ← ht.bytes]
    simp [sumB]
theorem build_good (n : Nat) : ∀ (ts : List T) (cs : List (List UInt8)), ts.length ≤ n → GoodsL ts cs → GoodO (buildL ts) cs := by
  induction n with
  | zero =>
    intro ts cs hn h
    have : ts = [] := List.eq_nil_of_length_eq_zero (by omega)
    subst this
    rw [buildL, dif_pos (by simp)]
    exact h
  | succ n ih =>
    intro ts cs hn h
    rw [buildL]
    split
    · cases ts with
      | nil => exact h
      | cons t r =>
        have : r = [] := List.eq_nil_of_length_eq_zero (by simp at *; omega)
        subst this
        obtain ⟨c1, c2, e, ht, hr⟩ := h
        have : c2 = [] := hr
        subst this
        rw [e, List.append_nil]
        exact ht
    · obtain ⟨c1, c2, e, h1, h2⟩ := h.split (ts.length / 2)
      rw [e]
      exact joinO_good (ih _ _ (by rw [List.length_take]; omega) h1) (ih _ _ (by rw [List.length_drop]; omega) h2)
theorem encode_size (r : Nat) (hr : r < 55296 ∨ (57344 ≤ r ∧ r ≤ 1114111)) : (Utf8.encode (r : Int)).size = if r < 128 then 1 else if r < 2048 then 2 else if r < 65536 then 3 else 4 := by
  have hv : Utf8.valid (r : Int) = true := by unfold Utf8.valid; simp; omega
  unfold Utf8.encode
  rw [hv]
  simp only [if_true, Int.toNat_natCast]
  repeat' split
  all_goals rfl
theorem encode_lett {c : List UInt8} (h : Lett c) : (Utf8.encode ((Lib.decodeL c).1 : Int)).size = c.length := by
  obtain ⟨h1, h2, h3⟩ := h
  rw [← h1]
  rw [Lib.decodeL_N] at *
  rcases Lib.decodeN_shape c.length (c.getD 0 0).toNat (c.getD 1 0).toNat (c.getD 2 0).toNat (c.getD 3 0).toNat with ⟨c, e⟩ | ⟨c1, c2, c3, cv, e⟩ | ⟨c1, c2, c3, c4, cv, cs, e⟩ | ⟨c1, c2, c3, c4, c5, cv, cw, e⟩ | e
  · rw [e, encode_size _ (by omega), if_pos c]
  · rw [e, encode_size _ (by omega), if_neg (by omega), if_pos (by omega)]
  · rw [e, encode_size _ (by omega), if_neg (by omega), if_neg (by omega), if_pos (by omega)]
  · rw [e, encode_size _ (by omega), if_neg (by omega), if_neg (by omega), if_neg (by omega)]
  · rw [e] at h3; exact absurd ⟨rfl, rfl⟩ h3
/-- The state of New's loop: a part of some letters is open. -/
theorem newGo_good (s : ByteArray) : ∀ (cs : List (List UInt8)) (f pos frm : Nat) (ts : List T) (done opn : List (List UInt8)), Letts cs → s.data.toList.drop pos = cs.flatten → cs.length ≤ f → frm ≤ pos → pos ≤ s.size →
    GoodsL ts done → Letts opn → (s.extract frm pos).data.toList = opn.flatten → pos - frm ≤ 64 →
    ∃ d2 o2, done ++ opn ++ cs = d2 ++ o2 ∧ GoodsL (newGo s f pos frm ts).1 d2 ∧ Letts o2 ∧ (newGo s f pos frm ts).2 ≤ s.size ∧ (s.extract (newGo s f pos frm ts).2 s.size).data.toList = o2.flatten ∧ s.size - (newGo s f pos frm ts).2 ≤ 64
  | [], f, pos, frm, ts, done, opn, _, h, _, h1, h2, h3, h4, h5, h6 => by
    have hp := pos_end h
    have e : newGo s f pos frm ts = (ts, frm) := by cases f <;> simp [newGo, hp]
    have ep : pos = s.size := by omega
    subst ep
    rw [e]
    exact ⟨done, opn, by simp, h3, h4, h1, h5, h6⟩
  | c :: r, 0, pos, frm, ts, done, opn, _, _, hf, _, _, _, _, _, _ => by simp at hf
  | c :: r, f + 1, pos, frm, ts, done, opn, hl, h, hf, h1, h2, h3, h4, h5, h6 => by
    have hc := hl c (by simp)
    have hlt := pos_lt h hc
    have hd := decode_at_letts h hc
    have hle : pos + c.length ≤ s.size := by
      have := congrArg List.length h
      rw [List.length_drop, List.flatten_cons, List.length_append] at this
      have e : s.data.toList.length = s.size := by simp
      omega
    have hen : encLen s pos = c.length := by unfold encLen; rw [hd.2]; exact encode_lett hc
    have hcut : ∀ q, q ≤ pos → (s.extract q (pos + c.length)).data.toList = (s.extract q pos).data.toList ++ c := by
      intro q hq
      rw [Lib.extract_data, Lib.extract_data]
      have e1 : pos + c.length - q = (pos - q) + c.length := by omega
      rw [e1, List.take_add, List.drop_drop, show q + (pos - q) = pos by omega, h, List.flatten_cons, List.take_left]
    have hlr : Letts r := fun d hd => hl d (by simp [hd])
    have hself : (s.extract pos (pos + c.length)).data.toList = c := by
      rw [hcut pos (Nat.le_refl _), Lib.extract_data]; simp
    rw [newGo, if_pos hlt, hd.1, hen]
    split
    · rename_i hflush
      have hlen : (s.extract frm pos).size = pos - frm := by rw [ByteArray.size_extract]; omega
      have hg : Good (.leaf (s.extract frm pos)) opn := ⟨h5, h4, by have := hc.le; omega, by omega⟩
      obtain ⟨d2, o2, e, g1, g2, g3, g4, g5⟩ := newGo_good s r f (pos + c.length) pos (ts ++ [.leaf (s.extract frm pos)]) (done ++ opn) [c] hlr (drop_letts h) (by simpa using hf) (by omega) hle (h3.snoc hg)
        (fun d hd => by simp at hd; subst hd; exact hc) (by rw [hself]; simp) (by have := hc.le; omega)
      exact ⟨d2, o2, by rw [← e]; simp, g1, g2, g3, g4, g5⟩
    · rename_i hstay
      obtain ⟨d2, o2, e, g1, g2, g3, g4, g5⟩ := newGo_good s r f (pos + c.length) frm ts done (opn ++ [c]) hlr (drop_letts h) (by simpa using hf) (by omega) hle h3
        (fun d hd => by rcases List.mem_append.1 hd with hd | hd; exact h4 d hd; simp at hd; subst hd; exact hc) (by rw [hcut frm h1, h5]; simp) (by omega)
      exact ⟨d2, o2, by rw [← e]; simp, g1, g2, g3, g4, g5⟩
theorem newL_good {s : ByteArray} {cs : List (List UInt8)} (hl : Letts cs) (h : s.data.toList = cs.flatten) : GoodsL (newL s) cs := by
  have e : s.data.toList.length = s.size := by simp
  have k := letts_le cs hl
  rw [← h, e] at k
  obtain ⟨d2, o2, e2, g1, g2, g3, g4, g5⟩ := newGo_good s cs s.size 0 0 [] [] [] hl (by simpa using h) k (Nat.le_refl _) (Nat.zero_le _) rfl (fun d hd => by simp at hd) (by rw [Lib.extract_data]; simp) (by omega)
  simp only [List.nil_append, List.append_nil] at e2
  unfold newL
  have hz : (s.extract (newGo s s.size 0 0 []).2 s.size).size = s.size - (newGo s s.size 0 0 []).2 := by rw [ByteArray.size_extract]; omega
  split
  · rw [e2]
    exact g1.snoc ⟨g4, g2, by omega, by omega⟩
  · have : o2 = [] := by
      have h0 : o2.flatten.length = 0 := by rw [← g4]; simp; omega
      have h1 := letts_le o2 g2
      exact List.eq_nil_of_length_eq_zero (by omega)
    rw [e2, this, List.append_nil]
    exact g1
theorem newO_good {s : ByteArray} {cs : List (List UInt8)} (hl : Letts cs) (h : s.data.toList = cs.flatten) : GoodO (newO s) cs := by
  unfold newO
  rw [if_pos ((validD_iff _).2 ⟨cs, hl, h⟩)]
  exact build_good _ _ _ (Nat.le_refl _) (newL_good hl h)
end Go.Proofs.YtjphmebhofkhcaaDoor.Rope
/- Plain laws: what the document's functions on texts (chancelref01, chancelref02) answer of texts that are letters. Conditions: texts of at most 2^40 bytes. -/
namespace Go.Proofs.YtjphmebhofkhcaaDoor.Rope
open Go.RowKit Go.Proofs.YtjphmebhofkhcaaDoorPl Go.Proofs.YtjphmebhofkhcaaDoor.PSegAll Go.Proofs.YtjphmebhofkhcaaDoorW.PrintWords Go.Proofs.YtjphmebhofkhcaaDoorW.PrintLast Go.Proofs.YtjphmebhofkhcaaDoorW.PrintMore
set_option linter.unusedVariables false
set_option linter.unusedSimpArgs false
theorem ev_eight {α : Type} {g : Nat → Option α} {r : α} (h : ∀ m, g (m + 8) = some r) : Ev g r := ⟨8, fun k hk => by obtain ⟨m, rfl⟩ : ∃ m, k = m + 8 := ⟨k - 8, by omega⟩; exact h m⟩
theorem bt_nat (s : ByteArray) (i : Nat) : bt s (i : Int) = ((s.data.toList.getD i 0).toNat : Int) := by
  unfold bt
  rw [Int.toNat_natCast]
  split
  · rename_i h
    have : s.data.toList.getD i 0 = s[i] := by
      have h' : i < s.data.toList.length := by simpa using h
      rw [List.getD_eq_getElem?_getD, List.getElem?_eq_getElem h']; rfl
    rw [this]
  · rename_i h
    have h' : s.data.toList.length ≤ i := by simpa using h
    rw [List.getD_eq_getElem?_getD, List.getElem?_eq_none h']; rfl
theorem wrap32_id {x : Int} (h0 : 0 ≤ x) (h1 : x < 2147483648) : wrap32 x = x := by unfold wrap32; omega
theorem bad_eq : (some ((1 : Int), (65533 : Int)) : Option (Int × Int)) = some ((((65533, 1) : Nat × Nat).2 : Int), (((65533, 1) : Nat × Nat).1 : Int)) := by simp
theorem wrap_one : wrap64 (1 + 1) = 2 := by unfold wrap64; omega
theorem wrap_two : wrap64 (2 + 1) = 3 := by unfold wrap64; omega
theorem wrap_three : wrap64 (3 + 1) = 4 := by unfold wrap64; omega

theorem size_2 (s : ByteArray) (b0 b1 b2 b3 : Nat) (h0 : 192 ≤ b0) (h1 : b0 < 224) (k1 : b1 < 256) (k2 : b2 < 256) (k3 : b3 < 256) (e1 : bt s 1 = (b1 : Int)) (hs : s.size ≤ 140737488355328) (m : Nat) : chancelref01_size.j2 (m + 6) s 2 128 ((b0 : Int) - 192) = some (((Lib.decodeN s.size b0 b1 b2 b3).2 : Int), ((Lib.decodeN s.size b0 b1 b2 b3).1 : Int)) := by
  rw [chancelref01_size.j2]
  by_cases n2 : (s.size : Int) < 2
  · rw [if_pos n2]; unfold Lib.decodeN; rw [if_neg (by omega), if_neg (by omega), if_neg (by omega), if_neg (by omega)]; exact bad_eq
  · rw [if_neg n2, chancelref01_size.l0, if_pos (by omega), if_pos (by omega), if_pos (by omega), e1, wrap_id (x := (b1 : Int)) (by omega) (by omega)]
    by_cases q1 : (b1 : Int) < 128
    · rw [if_pos q1]; unfold Lib.decodeN; rw [if_neg (by omega), if_neg (by omega), if_neg (by omega), if_neg (by omega)]; exact bad_eq
    rw [if_neg q1]
    by_cases r1 : (b1 : Int) ≥ 192
    · rw [if_pos r1]; unfold Lib.decodeN; rw [if_neg (by omega), if_neg (by omega), if_neg (by omega), if_neg (by omega)]; exact bad_eq
    rw [if_neg r1, wrap_id (x := ((b0 : Int) - 192) * 64) (by omega) (by omega), wrap_id (x := ((b0 : Int) - 192) * 64 + (b1 : Int)) (by omega) (by omega), wrap_id (x := ((b0 : Int) - 192) * 64 + (b1 : Int) - 128) (by omega) (by omega), wrap_one, chancelref01_size.l0, if_neg (by omega)]
    by_cases f1 : (((b0 : Int) - 192) * 64 + (b1 : Int) - 128) < 128
    · rw [if_pos f1]; unfold Lib.decodeN; rw [if_neg (by omega), if_pos (by omega), if_neg (by omega)]; exact bad_eq
    rw [if_neg f1]
    rw [if_neg (by omega), if_neg (by omega), wrap32_id (by omega) (by omega)]; unfold Lib.decodeN; rw [if_neg (by omega), if_pos (by omega), if_pos (by omega)]
    congr 2; omega

theorem size_3 (s : ByteArray) (b0 b1 b2 b3 : Nat) (h0 : 224 ≤ b0) (h1 : b0 < 240) (k1 : b1 < 256) (k2 : b2 < 256) (k3 : b3 < 256) (e1 : bt s 1 = (b1 : Int)) (e2 : bt s 2 = (b2 : Int)) (hs : s.size ≤ 140737488355328) (m : Nat) : chancelref01_size.j2 (m + 6) s 3 2048 ((b0 : Int) - 224) = some (((Lib.decodeN s.size b0 b1 b2 b3).2 : Int), ((Lib.decodeN s.size b0 b1 b2 b3).1 : Int)) := by
  rw [chancelref01_size.j2]
  by_cases n2 : (s.size : Int) < 3
  · rw [if_pos n2]; unfold Lib.decodeN; rw [if_neg (by omega), if_neg (by omega), if_neg (by omega), if_neg (by omega)]; exact bad_eq
  · rw [if_neg n2, chancelref01_size.l0, if_pos (by omega), if_pos (by omega), if_pos (by omega), e1, wrap_id (x := (b1 : Int)) (by omega) (by omega)]
    by_cases q1 : (b1 : Int) < 128
    · rw [if_pos q1]; unfold Lib.decodeN; rw [if_neg (by omega), if_neg (by omega), if_neg (by omega), if_neg (by omega)]; exact bad_eq
    rw [if_neg q1]
    by_cases r1 : (b1 : Int) ≥ 192
    · rw [if_pos r1]; unfold Lib.decodeN; rw [if_neg (by omega), if_neg (by omega), if_neg (by omega), if_neg (by omega)]; exact bad_eq
    rw [if_neg r1, wrap_id (x := ((b0 : Int) - 224) * 64) (by omega) (by omega), wrap_id (x := ((b0 : Int) - 224) * 64 + (b1 : Int)) (by omega) (by omega), wrap_id (x := ((b0 : Int) - 224) * 64 + (b1 : Int) - 128) (by omega) (by omega), wrap_one, chancelref01_size.l0, if_pos (by omega), if_pos (by omega), if_pos (by omega), e2, wrap_id (x := (b2 : Int)) (by omega) (by omega)]
    by_cases q2 : (b2 : Int) < 128
    · rw [if_pos q2]; unfold Lib.decodeN; rw [if_neg (by omega), if_neg (by omega), if_neg (by omega), if_neg (by omega)]; exact bad_eq
    rw [if_neg q2]
    by_cases r2 : (b2 : Int) ≥ 192
    · rw [if_pos r2]; unfold Lib.decodeN; rw [if_neg (by omega), if_neg (by omega), if_neg (by omega), if_neg (by omega)]; exact bad_eq
    rw [if_neg r2, wrap_id (x := (((b0 : Int) - 224) * 64 + (b1 : Int) - 128) * 64) (by omega) (by omega), wrap_id (x := (((b0 : Int) - 224) * 64 + (b1 : Int) - 128) * 64 + (b2 : Int)) (by omega) (by omega), wrap_id (x := (((b0 : Int) - 224) * 64 + (b1 : Int) - 128) * 64 + (b2 : Int) - 128) (by omega) (by omega), wrap_two, chancelref01_size.l0, if_neg (by omega)]
    by_cases f1 : ((((b0 : Int) - 224) * 64 + (b1 : Int) - 128) * 64 + (b2 : Int) - 128) < 2048
    · rw [if_pos f1]; unfold Lib.decodeN; rw [if_neg (by omega), if_neg (by omega), if_pos (by omega), if_neg (by omega)]; exact bad_eq
    rw [if_neg f1]
    rw [if_neg (by omega)]
    by_cases f3 : ((((b0 : Int) - 224) * 64 + (b1 : Int) - 128) * 64 + (b2 : Int) - 128) ≥ 55296
    · rw [if_pos f3]
      by_cases f4 : ((((b0 : Int) - 224) * 64 + (b1 : Int) - 128) * 64 + (b2 : Int) - 128) < 57344
      · rw [if_pos f4]; unfold Lib.decodeN; rw [if_neg (by omega), if_neg (by omega), if_pos (by omega), if_neg (by omega)]; exact bad_eq
      rw [if_neg f4, wrap32_id (by omega) (by omega)]; unfold Lib.decodeN; rw [if_neg (by omega), if_neg (by omega), if_pos (by omega), if_pos (by omega)]
      congr 2; omega
    rw [if_neg f3, wrap32_id (by omega) (by omega)]; unfold Lib.decodeN; rw [if_neg (by omega), if_neg (by omega), if_pos (by omega), if_pos (by omega)]
    congr 2; omega

theorem size_4 (s : ByteArray) (b0 b1 b2 b3 : Nat) (h0 : 240 ≤ b0) (h1 : b0 < 248) (k1 : b1 < 256) (k2 : b2 < 256) (k3 : b3 < 256) (e1 : bt s 1 = (b1 : Int)) (e2 : bt s 2 = (b2 : Int)) (e3 : bt s 3 = (b3 : Int)) (hs : s.size ≤ 140737488355328) (m : Nat) : chancelref01_size.j2 (m + 6) s 4 65536 ((b0 : Int) - 240) = some (((Lib.decodeN s.size b0 b1 b2 b3).2 : Int), ((Lib.decodeN s.size b0 b1 b2 b3).1 : Int)) := by
  rw [chancelref01_size.j2]
  by_cases n2 : (s.size : Int) < 4
  · rw [if_pos n2]; unfold Lib.decodeN; rw [if_neg (by omega), if_neg (by omega), if_neg (by omega), if_neg (by omega)]; exact bad_eq
  · rw [if_neg n2, chancelref01_size.l0, if_pos (by omega), if_pos (by omega), if_pos (by omega), e1, wrap_id (x := (b1 : Int)) (by omega) (by omega)]
    by_cases q1 : (b1 : Int) < 128
    · rw [if_pos q1]; unfold Lib.decodeN; rw [if_neg (by omega), if_neg (by omega), if_neg (by omega), if_neg (by omega)]; exact bad_eq
    rw [if_neg q1]
    by_cases r1 : (b1 : Int) ≥ 192
    · rw [if_pos r1]; unfold Lib.decodeN; rw [if_neg (by omega), if_neg (by omega), if_neg (by omega), if_neg (by omega)]; exact bad_eq
    rw [if_neg r1, wrap_id (x := ((b0 : Int) - 240) * 64) (by omega) (by omega), wrap_id (x := ((b0 : Int) - 240) * 64 + (b1 : Int)) (by omega) (by omega), wrap_id (x := ((b0 : Int) - 240) * 64 + (b1 : Int) - 128) (by omega) (by omega), wrap_one, chancelref01_size.l0, if_pos (by omega), if_pos (by omega), if_pos (by omega), e2, wrap_id (x := (b2 : Int)) (by omega) (by omega)]
    by_cases q2 : (b2 : Int) < 128
    · rw [if_pos q2]; unfold Lib.decodeN; rw [if_neg (by omega), if_neg (by omega), if_neg (by omega), if_neg (by omega)]; exact bad_eq
    rw [if_neg q2]
    by_cases r2 : (b2 : Int) ≥ 192
    · rw [if_pos r2]; unfold Lib.decodeN; rw [if_neg (by omega), if_neg (by omega), if_neg (by omega), if_neg (by omega)]; exact bad_eq
    rw [if_neg r2, wrap_id (x := (((b0 : Int) - 240) * 64 + (b1 : Int) - 128) * 64) (by omega) (by omega), wrap_id (x := (((b0 : Int) - 240) * 64 + (b1 : Int) - 128) * 64 + (b2 : Int)) (by omega) (by omega), wrap_id (x := (((b0 : Int) - 240) * 64 + (b1 : Int) - 128) * 64 + (b2 : Int) - 128) (by omega) (by omega), wrap_two, chancelref01_size.l0, if_pos (by omega), if_pos (by omega), if_pos (by omega), e3, wrap_id (x := (b3 : Int)) (by omega) (by omega)]
    by_cases q3 : (b3 : Int) < 128
    · rw [if_pos q3]; unfold Lib.decodeN; rw [if_neg (by omega), if_neg (by omega), if_neg (by omega), if_neg (by omega)]; exact bad_eq
    rw [if_neg q3]
    by_cases r3 : (b3 : Int) ≥ 192
    · rw [if_pos r3]; unfold Lib.decodeN; rw [if_neg (by omega), if_neg (by omega), if_neg (by omega), if_neg (by omega)]; exact bad_eq
    rw [if_neg r3, wrap_id (x := ((((b0 : Int) - 240) * 64 + (b1 : Int) - 128) * 64 + (b2 : Int) - 128) * 64) (by omega) (by omega), wrap_id (x := ((((b0 : Int) - 240) * 64 + (b1 : Int) - 128) * 64 + (b2 : Int) - 128) * 64 + (b3 : Int)) (by omega) (by omega), wrap_id (x := ((((b0 : Int) - 240) * 64 + (b1 : Int) - 128) * 64 + (b2 : Int) - 128) * 64 + (b3 : Int) - 128) (by omega) (by omega), wrap_three, chancelref01_size.l0, if_neg (by omega)]
    by_cases f1 : (((((b0 : Int) - 240) * 64 + (b1 : Int) - 128) * 64 + (b2 : Int) - 128) * 64 + (b3 : Int) - 128) < 65536
    · rw [if_pos f1]; unfold Lib.decodeN; rw [if_neg (by omega), if_neg (by omega), if_neg (by omega), if_pos (by omega), if_neg (by omega)]; exact bad_eq
    rw [if_neg f1]
    by_cases f2 : (((((b0 : Int) - 240) * 64 + (b1 : Int) - 128) * 64 + (b2 : Int) - 128) * 64 + (b3 : Int) - 128) > 1114111
    · rw [if_pos f2]; unfold Lib.decodeN; rw [if_neg (by omega), if_neg (by omega), if_neg (by omega), if_pos (by omega), if_neg (by omega)]; exact bad_eq
    rw [if_neg f2, if_pos (by omega), if_neg (by omega), wrap32_id (by omega) (by omega)]; unfold Lib.decodeN; rw [if_neg (by omega), if_neg (by omega), if_neg (by omega), if_pos (by omega), if_pos (by omega)]
    congr 2; omega

theorem size_ev (s : ByteArray) (h : 0 < s.size) (hs : s.size ≤ 140737488355328) : Ev (fun k => chancelref01_size.f k s) (((Utf8.decode s 0).2 : Int), ((Utf8.decode s 0).1 : Int)) := by
  have el : s.data.toList.length = s.size := by simp
  rw [Lib.decode_N s 0, el, Nat.sub_zero, Nat.zero_add, Nat.zero_add, Nat.zero_add]
  have y0 := bt_nat s 0
  have y1 := bt_nat s 1
  have y2 := bt_nat s 2
  have y3 := bt_nat s 3
  have k0 := (s.data.toList.getD 0 0).toNat_lt
  have k1 := (s.data.toList.getD 1 0).toNat_lt
  have k2 := (s.data.toList.getD 2 0).toNat_lt
  have k3 := (s.data.toList.getD 3 0).toNat_lt
  generalize (s.data.toList.getD 0 0).toNat = b0 at *
  generalize (s.data.toList.getD 1 0).toNat = b1 at *
  generalize (s.data.toList.getD 2 0).toNat = b2 at *
  generalize (s.data.toList.getD 3 0).toNat = b3 at *
  have e0 : bt s 0 = (b0 : Int) := y0
  clear y0
  have e1 : bt s 1 = (b1 : Int) := y1
  clear y1
  have e2 : bt s 2 = (b2 : Int) := y2
  clear y2
  have e3 : bt s 3 = (b3 : Int) := y3
  clear y3
  have w0 : wrap64 (b0 : Int) = (b0 : Int) := wrap_id (by omega) (by omega)
  have W0 := Lib.hid w0
  clear w0
  refine ev_eight fun m => ?_
  by_cases c0 : b0 < 128
  · have D : Lib.decodeN s.size b0 b1 b2 b3 = (b0, 1) := by unfold Lib.decodeN; rw [if_pos c0]
    rw [D]
    simp only [chancelref01_size.f, e0, W0.out]
    rw [if_pos (by omega), if_pos (by omega), wrap32_id (x := (b0 : Int)) (by omega) (by omega)]; rfl
  by_cases c1 : b0 < 192
  · have D : Lib.decodeN s.size b0 b1 b2 b3 = (65533, 1) := by unfold Lib.decodeN; rw [if_neg c0, if_neg (by omega), if_neg (by omega), if_neg (by omega)]
    simp only [chancelref01_size.f, chancelref01_size.j0, chancelref01_size.j1, e0, W0.out, Bool.false_eq_true, if_false]
    rw [D, if_pos (by omega), if_neg (by omega), if_neg (by omega), if_neg (by omega), if_neg (by omega)]; exact bad_eq
  by_cases c2 : b0 < 224
  · have d : decide ((b0 : Int) < 224) = true := by simp; omega
    simp only [chancelref01_size.f, chancelref01_size.j0, e0, W0.out, d, if_true]
    rw [if_pos (by omega), if_neg (by omega), if_pos (by omega), wrap_id (x := (b0 : Int) - 192) (by omega) (by omega)]
    exact size_2 s b0 b1 b2 b3 (by omega) c2 k1 k2 k3 e1 hs (m + 1)
  by_cases c3 : b0 < 240
  · have d : decide ((b0 : Int) < 224) = false := by simp; omega
    have d2 : decide ((b0 : Int) < 240) = true := by simp; omega
    simp only [chancelref01_size.f, chancelref01_size.j0, chancelref01_size.j1, e0, W0.out, d, d2, if_true, Bool.false_eq_true, if_false]
    rw [if_pos (by omega), if_neg (by omega), if_pos (by omega), if_pos (by omega), wrap_id (x := (b0 : Int) - 224) (by omega) (by omega)]
    exact size_3 s b0 b1 b2 b3 (by omega) c3 k1 k2 k3 e1 e2 hs m
  have d : decide ((b0 : Int) < 224) = false := by simp; omega
  have d2 : decide ((b0 : Int) < 240) = false := by simp; omega
  by_cases c4 : b0 < 248
  · simp only [chancelref01_size.f, chancelref01_size.j0, chancelref01_size.j1, e0, W0.out, d, d2, Bool.false_eq_true, if_false]
    rw [if_pos (by omega), if_neg (by omega), if_pos (by omega), if_pos (by omega), if_pos (by omega), if_pos (by omega), wrap_id (x := (b0 : Int) - 240) (by omega) (by omega)]
    exact size_4 s b0 b1 b2 b3 (by omega) c4 k1 k2 k3 e1 e2 e3 hs m
  · have D : Lib.decodeN s.size b0 b1 b2 b3 = (65533, 1) := by unfold Lib.decodeN; rw [if_neg c0, if_neg (by omega), if_neg (by omega), if_neg (by omega)]
    simp only [chancelref01_size.f, chancelref01_size.j0, chancelref01_size.j1, e0, W0.out, d, d2, Bool.false_eq_true, if_false]
    rw [D, if_pos (by omega), if_neg (by omega), if_pos (by omega), if_pos (by omega), if_pos (by omega), if_neg (by omega)]; exact bad_eq
end Go.Proofs.YtjphmebhofkhcaaDoor.Rope
/- Plain laws: what the document's Right, Count, Byte, Cut, Put and Drop answer of texts that are letters. Conditions: texts of at most 2^40 bytes. -/
namespace Go.Proofs.YtjphmebhofkhcaaDoor.Rope
open Go.RowKit Go.Proofs.YtjphmebhofkhcaaDoorPl Go.Proofs.YtjphmebhofkhcaaDoor.PSegAll Go.Proofs.YtjphmebhofkhcaaDoorW.PrintWords Go.Proofs.YtjphmebhofkhcaaDoorW.PrintLast Go.Proofs.YtjphmebhofkhcaaDoorW.PrintMore
set_option linter.unusedVariables false
set_option linter.unusedSimpArgs false
theorem nil_iff (s : ByteArray) : s.toList = ([] : List UInt8) ↔ s.size = 0 := by
  rw [toList_nil_iff_emptyBytes]
  constructor
  · intro h; rw [h]; rfl
  · intro h
    apply ByteArray.ext
    exact Array.eq_empty_of_size_eq_zero h
theorem toList_size (s : ByteArray) : s.data.toList.length = s.size := by simp
theorem decode_zero (s : ByteArray) : Utf8.decode s 0 = Lib.decodeL s.data.toList := by rw [← Lib.decodeL_drop, List.drop_zero]
theorem ext_tail (s : ByteArray) (w : Nat) : (s.extract w s.size).data.toList = s.data.toList.drop w := by
  rw [Lib.extract_data]; apply List.take_of_length_le; rw [List.length_drop, toList_size]; omega
theorem valid_bad {l : List UInt8} (hne : l ≠ []) (hb : (Lib.decodeL l).1 = 65533 ∧ (Lib.decodeL l).2 = 1) : Lib.validD l = false := by
  rw [Bool.eq_false_iff]
  intro h
  obtain ⟨cs, h1, rfl⟩ := (validD_iff l).1 h
  cases cs with
  | nil => exact hne rfl
  | cons c r =>
    have hc := h1 c (by simp)
    rw [List.flatten_cons, lett_append hc] at hb
    exact hc.2.2 hb
theorem valid_step {l : List UInt8} (hne : l ≠ []) (hb : ¬ ((Lib.decodeL l).1 = 65533 ∧ (Lib.decodeL l).2 = 1)) : Lib.validD l = Lib.validD (l.drop (Lib.decodeL l).2) := by
  rw [Bool.eq_iff_iff, validD_iff, validD_iff]
  constructor
  · rintro ⟨cs, h1, rfl⟩
    cases cs with
    | nil => exact absurd rfl hne
    | cons c r =>
      have hc := h1 c (by simp)
      refine ⟨r, fun d hd => h1 d (by simp [hd]), ?_⟩
      rw [List.flatten_cons, lett_append hc, hc.1, List.drop_left]
  · rintro ⟨cs, h1, h2⟩
    refine ⟨l.take (Lib.decodeL l).2 :: cs, fun d hd => ?_, ?_⟩
    · rcases List.mem_cons.1 hd with rfl | hd
      · exact (lett_take hne hb).1
      · exact h1 d hd
    · rw [List.flatten_cons, ← h2, List.take_append_drop]
theorem Right_l0 (n : Nat) : ∀ s : ByteArray, s.size ≤ n → s.size ≤ 140737488355328 → Ev (fun k => chancelref01_Right.l0 k s) (Lib.validD s.data.toList) := by
  induction n with
  | zero =>
    intro s hn _
    have h0 : s.toList = ([] : List UInt8) := (nil_iff s).2 (by omega)
    have e : s.data.toList = [] := List.eq_nil_of_length_eq_zero (by rw [toList_size]; omega)
    rw [e]
    exact ev_next (f := fun _ => some true) (fun k => by simp only [chancelref01_Right.l0]; rw [if_pos h0]) (Ev.now _)
  | succ n ih =>
    intro s hn hs
    by_cases h0 : s.size = 0
    · have h1 : s.toList = ([] : List UInt8) := (nil_iff s).2 h0
      have e : s.data.toList = [] := List.eq_nil_of_length_eq_zero (by rw [toList_size]; omega)
      rw [e]
      exact ev_next (f := fun _ => some true) (fun k => by simp only [chancelref01_Right.l0]; rw [if_pos h1]) (Ev.now _)
    · have h1 : ¬ s.toList = ([] : List UInt8) := fun h => h0 ((nil_iff s).1 h)
      have hne : s.data.toList ≠ [] := fun h => h0 (by rw [← toList_size, h]; rfl)
      have hsz := size_ev s (by omega) hs
      have hle := Lib.decodeL_le _ hne
      have hp := Lib.decodeL_width s.data.toList
      rw [toList_size] at hle
      rw [decode_zero] at hsz
      have hi := ih (s.extract (Lib.decodeL s.data.toList).2 s.size) (by rw [ByteArray.size_extract]; omega) (by rw [ByteArray.size_extract]; omega)
      rw [ext_tail] at hi
      refine ev_next (fun k => by simp only [chancelref01_Right.l0]; rw [if_neg h1]) (Ev.bind hsz ?_)
      dsimp only
      by_cases hb : (Lib.decodeL s.data.toList).1 = 65533 ∧ (Lib.decodeL s.data.toList).2 = 1
      · rw [valid_bad hne hb]
        simp only [hb.1, hb.2]
        exact ev_rfl fun k => by simp
      · rw [valid_step hne hb]
        generalize (Lib.decodeL s.data.toList).2 = w at *
        generalize (Lib.decodeL s.data.toList).1 = r at *
        have hw : ((w : Nat) : Int).toNat = w := Int.toNat_natCast w
        by_cases c1 : (w : Int) = 1
        · have c2 : ¬ (r : Int) = 65533 := by omega
          simp only [if_pos c1, if_neg c2, if_pos (show (0 : Int) ≤ (w : Int) by omega), if_pos (show (w : Int) ≤ (s.size : Int) by omega), hw]
          exact hi
        · simp only [if_neg c1, if_pos (show (0 : Int) ≤ (w : Int) by omega), if_pos (show (w : Int) ≤ (s.size : Int) by omega), hw]
          exact hi
theorem Right_ev (s : ByteArray) (hs : s.size ≤ 140737488355328) : Ev (fun k => chancelref01_Right.f k s) (Lib.validD s.data.toList) := Right_l0 _ s (Nat.le_refl _) hs
theorem size_letts {s : ByteArray} {c : List UInt8} {r : List (List UInt8)} (h : s.data.toList = (c :: r).flatten) (hc : Lett c) (hs : s.size ≤ 1099511627776) : 0 < s.size ∧ c.length ≤ s.size ∧ (s.extract c.length s.size).data.toList = r.flatten ∧ ∃ x : Int, Ev (fun k => chancelref01_size.f k s) ((c.length : Int), x) := by
  have hl := congrArg List.length h
  rw [toList_size, List.flatten_cons, List.length_append] at hl
  have hp := hc.pos
  refine ⟨by omega, by omega, by rw [ext_tail, h, List.flatten_cons, List.drop_left], ((Lib.decodeL c).1 : Int), ?_⟩
  have := size_ev s (by omega) (by omega)
  rw [decode_zero, h, List.flatten_cons, lett_append hc, hc.1] at this
  exact this
theorem Letters_l0 : ∀ (cs : List (List UInt8)) (s : ByteArray) (acc : List Int), Letts cs → s.data.toList = cs.flatten → s.size ≤ 1099511627776 → acc.length + cs.length ≤ 1099511627776 →
    ∃ r, Ev (fun k => chancelref01_Letters.l0 k s acc) r ∧ r.length = acc.length + cs.length
  | [], s, acc, _, h, hs, _ => by
    have h1 : s.toList = ([] : List UInt8) := (nil_iff s).2 (by rw [← toList_size, h]; rfl)
    exact ⟨acc, ev_next (f := fun _ => some acc) (fun k => by simp only [chancelref01_Letters.l0]; rw [if_pos h1]) (Ev.now _), by simp⟩
  | c :: r, s, acc, hl, h, hs, hb => by
    obtain ⟨h0, h1, h2, x, hx⟩ := size_letts h (hl c (by simp)) hs
    have h3 : ¬ s.toList = ([] : List UInt8) := fun h => by have := (nil_iff s).1 h; omega
    obtain ⟨q, hq, hq2⟩ := Letters_l0 r (s.extract c.length s.size) (acc ++ [x]) (fun d hd => hl d (by simp [hd])) h2 (by rw [ByteArray.size_extract]; omega) (by simp at *; omega)
    refine ⟨q, ev_next (fun k => by simp only [chancelref01_Letters.l0]; rw [if_neg h3]) (Ev.bind hx ?_), by rw [hq2]; simp; omega⟩
    simp only [List.length_cons] at hb
    simp only [if_pos (show acc.length < 35184372088832 by omega), if_pos (show (0 : Int) ≤ (c.length : Int) by omega), if_pos (show (c.length : Int) ≤ (s.size : Int) by omega), Int.toNat_natCast]
    exact hq
theorem Count_ev {s : ByteArray} {cs : List (List UInt8)} (hl : Letts cs) (h : s.data.toList = cs.flatten) (hs : s.size ≤ 1099511627776) : Ev (fun k => chancelref01_Count.f k s) (cs.length : Int) := by
  have k := letts_le cs hl
  rw [← h, toList_size] at k
  obtain ⟨r, hr, hr2⟩ := Letters_l0 cs s [] hl h hs (by simp; omega)
  unfold chancelref01_Count.f
  refine Ev.bind (g := fun k => chancelref01_Letters.f k s) hr ?_
  rw [hr2]
  simp only [List.length_nil, Nat.zero_add]
  exact Ev.now _
theorem flat_take_le (cs : List (List UInt8)) (j : Nat) : (cs.take j).flatten.length ≤ cs.flatten.length := by rw [flatten_take_drop cs j, List.length_append]; omega
theorem Byte_l0 {s : ByteArray} {cs : List (List UInt8)} (hl : Letts cs) (h : s.data.toList = cs.flatten) (hs : s.size ≤ 1099511627776) (at_ : Int) : ∀ (rest : List (List UInt8)) (j : Nat), rest = cs.drop j → j ≤ at_.toNat → j ≤ cs.length →
    Ev (fun k => chancelref01_Byte.l0 k s at_ ((cs.take j).flatten.length : Int) (j : Int)) ((cs.take at_.toNat).flatten.length : Int)
  | [], j, hr, hj, hjl => by
    have hlen : cs.length = j := by have := congrArg List.length hr; simp at this; omega
    have e1 : cs.take j = cs := List.take_of_length_le (by omega)
    have e2 : cs.take at_.toNat = cs := List.take_of_length_le (by omega)
    have e3 : cs.flatten.length = s.size := by rw [← h, toList_size]
    rw [e1, e2]
    refine ev_next (f := fun _ => some (cs.flatten.length : Int)) (fun k => ?_) (Ev.now _)
    simp only [chancelref01_Byte.l0]
    by_cases c : (j : Int) < at_
    · rw [if_pos c, if_neg (by omega)]
    · rw [if_neg c]
  | c :: r, j, hr, hj, hjl => by
    have hc : Lett c := hl c (by have : c ∈ cs.drop j := by rw [← hr]; simp
                                 exact List.mem_of_mem_drop this)
    have hjlt : j < cs.length := by have := congrArg List.length hr; simp at this; omega
    have e4 : cs.take (j + 1) = cs.take j ++ [c] := by
      rw [List.take_succ_eq_append_getElem hjlt]
      congr 2
      have := List.drop_eq_getElem_cons hjlt
      rw [← hr] at this
      injection this with h1 h2
      exact h1.symm
    have e5 : r = cs.drop (j + 1) := by
      have := List.drop_eq_getElem_cons hjlt
      rw [← hr] at this
      injection this with h1 h2
    have e6 : cs.flatten.length = s.size := by rw [← h, toList_size]
    have e7 := flat_take_le cs (j + 1)
    rw [e4, List.flatten_append, List.length_append] at e7
    have e8 : ([c] : List (List UInt8)).flatten.length = c.length := by simp
    have hcp := hc.pos
    have hll := letts_le cs hl
    by_cases hlt : (j : Int) < at_
    · have hx : (s.extract (cs.take j).flatten.length s.size).data.toList = (c :: r).flatten := by rw [hr]; exact extract_tail h j
      obtain ⟨h0, h1, h2, x, hx⟩ := size_letts hx hc (by rw [ByteArray.size_extract]; omega)
      have ih := Byte_l0 hl h hs at_ r (j + 1) e5 (by omega) (by omega)
      have w1 : wrap64 ((j : Int) + 1) = ((j + 1 : Nat) : Int) := wrap_succ (by omega)
      have w2 : wrap64 (((cs.take j).flatten.length : Int) + (c.length : Int)) = ((cs.take (j + 1)).flatten.length : Int) := by
        rw [e4, List.flatten_append, List.length_append, e8]
        rw [wrap_id (by omega) (by omega)]; omega
      refine ev_next (f := fun k => (chancelref01_size.f k (s.extract (cs.take j).flatten.length s.size)).bind fun bt122 => chancelref01_Byte.l0 k s at_ (wrap64 (((cs.take j).flatten.length : Int) + bt122.1)) ((j + 1 : Nat) : Int)) (fun k => ?_) (Ev.bind hx ?_)
      · simp only [chancelref01_Byte.l0]
        rw [if_pos hlt, if_pos (by omega), if_pos (by omega), if_pos (by omega), Int.toNat_natCast, w1]
      · dsimp only
        rw [w2]
        exact ih
    · have e9 : at_.toNat = j := by omega
      rw [e9]
      refine ev_next (f := fun _ => some ((cs.take j).flatten.length : Int)) (fun k => ?_) (Ev.now _)
      simp only [chancelref01_Byte.l0]
      rw [if_neg hlt]
theorem Byte_ev {s : ByteArray} {cs : List (List UInt8)} (hl : Letts cs) (h : s.data.toList = cs.flatten) (hs : s.size ≤ 1099511627776) (at_ : Int) : Ev (fun k => chancelref01_Byte.f k s at_) ((cs.take at_.toNat).flatten.length : Int) := by
  have := Byte_l0 hl h hs at_ cs 0 (by simp) (Nat.zero_le _) (Nat.zero_le _)
  simpa [chancelref01_Byte.f] using this
theorem take_lt {cs : List (List UInt8)} (hl : Letts cs) {a b : Nat} (h : (cs.take b).flatten.length ≤ (cs.take a).flatten.length) : (cs.take b).drop a = [] := by
  by_cases hab : b ≤ a
  · apply List.drop_eq_nil_of_le; rw [List.length_take]; omega
  · have e : cs.take b = cs.take a ++ (cs.take b).drop a := by
      have h1 := (List.take_append_drop a (cs.take b)).symm
      rw [List.take_take, Nat.min_eq_left (by omega)] at h1
      exact h1
    have k := letts_le ((cs.take b).drop a) (fun d hd => hl d (List.mem_of_mem_take (List.mem_of_mem_drop hd)))
    rw [e, List.flatten_append, List.length_append] at h
    exact List.eq_nil_of_length_eq_zero (by omega)
theorem cut_bytes {s : ByteArray} {cs : List (List UInt8)} (h : s.data.toList = cs.flatten) (a b : Nat) : (s.extract (cs.take a).flatten.length (cs.take b).flatten.length).data.toList = ((cs.take b).drop a).flatten := by
  rw [Lib.extract_data, h]
  by_cases hab : b ≤ a
  · have e : (cs.take b).drop a = [] := by apply List.drop_eq_nil_of_le; rw [List.length_take]; omega
    have e2 : (cs.take b).flatten.length ≤ (cs.take a).flatten.length := by
      have := flat_take_le (cs.take a) b
      rw [List.take_take, Nat.min_eq_left hab] at this; exact this
    rw [e, show (cs.take b).flatten.length - (cs.take a).flatten.length = 0 by omega]; simp
  · have e : cs.take b = cs.take a ++ (cs.take b).drop a := by
      have h1 := (List.take_append_drop a (cs.take b)).symm
      rw [List.take_take, Nat.min_eq_left (by omega)] at h1
      exact h1
    have e2 : cs.flatten = (cs.take a).flatten ++ (((cs.take b).drop a).flatten ++ (cs.drop b).flatten) := by
      rw [← List.append_assoc, ← List.flatten_append, ← e, ← flatten_take_drop]
    have e3 : (cs.take b).flatten.length - (cs.take a).flatten.length = ((cs.take b).drop a).flatten.length := by
      have := congrArg (fun l => l.flatten.length) e
      simp only [List.flatten_append, List.length_append] at this
      omega
    rw [e3, e2, List.drop_left, List.take_left]
theorem Cut_ev {s : ByteArray} {cs : List (List UInt8)} (hl : Letts cs) (h : s.data.toList = cs.flatten) (hs : s.size ≤ 1099511627776) (a b : Int) :
    ∃ r, Ev (fun k => chancelref01_Cut.f k s a b) r ∧ r.data.toList = ((cs.take b.toNat).drop a.toNat).flatten := by
  have e6 : cs.flatten.length = s.size := by rw [← h, toList_size]
  have q1 := flat_take_le cs a.toNat
  have q2 := flat_take_le cs b.toNat
  by_cases c : (cs.take b.toNat).flatten.length ≤ (cs.take a.toNat).flatten.length
  · refine ⟨⟨#[]⟩, Ev.bind (Byte_ev hl h hs a) (Ev.bind (Byte_ev hl h hs b) (ev_rfl fun k => by rw [if_pos (by omega)])), by rw [take_lt hl c]; rfl⟩
  · refine ⟨s.extract (cs.take a.toNat).flatten.length (cs.take b.toNat).flatten.length, Ev.bind (Byte_ev hl h hs a) (Ev.bind (Byte_ev hl h hs b) (ev_rfl fun k => ?_)), cut_bytes h _ _⟩
    rw [if_neg (by omega), if_pos (by omega), if_pos (by omega), if_pos (by omega), Int.toNat_natCast, Int.toNat_natCast]
end Go.Proofs.YtjphmebhofkhcaaDoor.Rope
/- Plain law: of a rope as it may be the document's Laid answers true. Conditions: texts of at most 2^40 bytes. -/
namespace Go.Proofs.YtjphmebhofkhcaaDoor.Rope
open Go.RowKit Go.Proofs.YtjphmebhofkhcaaDoorPl Go.Proofs.YtjphmebhofkhcaaDoor.PSegAll Go.Proofs.YtjphmebhofkhcaaDoorW.PrintWords Go.Proofs.YtjphmebhofkhcaaDoorW.PrintLast Go.Proofs.YtjphmebhofkhcaaDoorW.PrintMore
set_option linter.unusedVariables false
set_option linter.unusedSimpArgs false
/-- Parts that are right: not empty, not too long, each of letters. -/
def PartOk (p : ByteArray) : Prop := 0 < p.size ∧ p.size ≤ 64 ∧ Lib.validD p.data.toList = true
theorem Good.ok : ∀ {t : T} {cs : List (List UInt8)}, Good t cs → ∀ p ∈ t.parts, PartOk p
  | .leaf s, cs, h => fun p hp => by
    simp [T.parts] at hp
    subst hp
    exact ⟨h.2.2.1, h.2.2.2, (validD_iff _).2 ⟨cs, h.2.1, h.1⟩⟩
  | .node l r, cs, ⟨c1, c2, e, h1, h2, _, _⟩ => fun p hp => by
    simp only [T.parts, List.mem_append] at hp
    rcases hp with hp | hp
    · exact h1.ok p hp
    · exact h2.ok p hp
end Go.Proofs.YtjphmebhofkhcaaDoor.Rope
/- The walks of the laws' own has and of: a rope is just the text that it should be. Conditions: texts of at most 2^40 bytes. -/
namespace Go.Proofs.YtjphmebhofkhcaaDoor.Rope
open Go.RowKit Go.Proofs.YtjphmebhofkhcaaDoor.PSegAll Go.Proofs.YtjphmebhofkhcaaDoorW.PrintWords Go.Proofs.YtjphmebhofkhcaaDoorW.PrintLast Go.Proofs.YtjphmebhofkhcaaDoorW.PrintMore
set_option linter.unusedVariables false
set_option linter.unusedSimpArgs false
theorem below_drawn {w w' : World} (h : Drawn0 w w') : Below w.heap.size w w' := by
  obtain ⟨n, rfl⟩ := h
  exact pw_below_drewN (Below.refl _ _) n
/-- A rope of these letters. -/
structure Is (w : World) (v : Value) (t : Option T) (cs : List (List UInt8)) : Prop where
  r : IsR w v t
  g : GoodO t cs
  z : bytesO t ≤ 1099511627776
theorem Is.below {w w1 : World} {v : Value} {t : Option T} {cs : List (List UInt8)} (h : Is w v t cs) (hb : Below w.heap.size w w1) : Is w1 v t cs := ⟨h.r.below hb, h.g, h.z⟩
theorem text_eq {t : Option T} {cs : List (List UInt8)} (h : GoodO t cs) {s : ByteArray} (hs : s.data.toList = cs.flatten) : s = textO t := by
  apply ByteArray.ext
  apply Array.ext'
  rw [hs, ← h.text]
  rfl
/-- What New tells of a text. -/
theorem new_calls (s : ByteArray) (w : World) (hs : s.size ≤ 1099511627776) (hT : Tabs w) {cs : List (List UInt8)} (hl : Letts cs) (h : s.data.toList = cs.flatten) :
    Calls Tryd.prog 32 #[.string s] w fun e w' => ∃ v, e = .returned (.tuple #[v, .bool true]) ∧ Is w' v (newO s) cs ∧ Below w.heap.size w w' := by
  have hv : Lib.validD s.data.toList = true := (validD_iff _).2 ⟨cs, hl, h⟩
  have g := newL_good hl h
  have g2 := newO_good hl h
  have hb := g2.bytes
  rw [← h, toList_size] at hb
  refine (new_right s w hs hT hv g.ne (by rw [g.sum, ← h, toList_size])).mono ?_
  rintro e w' ⟨v, rfl, hr, hB⟩
  refine ⟨v, rfl, ⟨?_, g2, by omega⟩, hB⟩
  unfold newO
  rw [if_pos hv]
  exact hr
end Go.Proofs.YtjphmebhofkhcaaDoor.Rope
/- The walks of the laws RopeNew, RopeJoin, RopePut and RopeCut: each answers true. Conditions: Go's two tables of utf8 as they are laid. -/
namespace Go.Proofs.YtjphmebhofkhcaaDoor.Rope
open Go.RowKit Go.Proofs.YtjphmebhofkhcaaDoor.PSegAll Go.Proofs.YtjphmebhofkhcaaDoorW.PrintWords Go.Proofs.YtjphmebhofkhcaaDoorW.PrintLast Go.Proofs.YtjphmebhofkhcaaDoorW.PrintMore
set_option linter.unusedVariables false
set_option linter.unusedSimpArgs false
theorem Is.bytes {w : World} {v : Value} {t : Option T} {cs : List (List UInt8)} (h : Is w v t cs) : bytesO t = cs.flatten.length := h.g.bytes
/-- A rope comes back. -/
def RetI (t : Option T) (cs : List (List UInt8)) (w : World) (e : Ending) (w' : World) : Prop := ∃ v, e = .returned v ∧ Is w' v t cs ∧ Below w.heap.size w w'
theorem put_is {w : World} {a b : Option T} {va vb : Value} {ca cb : List (List UInt8)} (at_ : Int) (ha : Is w va a ca) (hb : Is w vb b cb) (hz : bytesO a + bytesO b ≤ 1099511627776) :
    Calls Tryd.prog 44 #[va, .int .i64 at_, vb] w (RetI (putO a at_ b) (ca.take at_.toNat ++ cb ++ ca.drop at_.toNat) w) := by
  refine (put_calls a b va vb at_ w ha.r hb.r ha.g.ne hb.g.ne hz).mono ?_
  rintro e w' ⟨v, rfl, h, hB⟩
  refine ⟨v, rfl, ⟨h, putO_good ha.g hb.g at_, ?_⟩, hB⟩
  unfold putO
  rw [joinO_bytes, joinO_bytes]
  have := splitO_bytes a at_
  omega
theorem cut_is {w : World} {a : Option T} {va : Value} {ca : List (List UInt8)} (f t : Int) (ha : Is w va a ca) :
    Calls Tryd.prog 53 #[va, .int .i64 f, .int .i64 t] w (RetI (cutO a f t) ((ca.take t.toNat).drop f.toNat) w) := by
  refine (cut_calls a va f t w ha.r ha.g.ne ha.z).mono ?_
  rintro e w' ⟨v, rfl, h, hB⟩
  refine ⟨v, rfl, ⟨h, cutO_good ha.g f t, ?_⟩, hB⟩
  have hz := ha.z
  unfold cutO
  split
  · exact Nat.zero_le _
  · have h1 := splitO_bytes a t
    have h2 := splitO_bytes (splitO a t).1 (mx f 0)
    omega
theorem text_is {w : World} {a : Option T} {va : Value} {ca : List (List UInt8)} (ha : Is w va a ca) (s : ByteArray) (hs : s.data.toList = ca.flatten) :
    Calls Tryd.prog 16 #[va] w fun e w' => e = .returned (.string s) ∧ Below w.heap.size w w' := by
  rw [text_eq ha.g hs]
  exact text_calls a va w ha.r ha.g.ne ha.z
theorem refRight_calls (s : ByteArray) (w : World) (hs : s.size ≤ 1099511627776) : Calls Tryd.prog 37 #[.string s] w fun e w' => e = .returned (.bool (Lib.validD s.data.toList)) ∧ Below w.heap.size w w' := by
  obtain ⟨k, hk⟩ := Go.Proofs.YtjphmebhofkhcaaDoorW.PrintWords.Ev.rounds (Right_ev s (by omega))
  refine (chancelref01_Right.calls k s _ w hk).mono ?_
  rintro e w' ⟨rfl, hd⟩
  exact ⟨rfl, below_drawn hd⟩
/-- Bytes below 128: letters of one byte. -/
def one (l : List UInt8) : List (List UInt8) := l.map fun b => [b]
theorem one_letts {l : List UInt8} (h : ∀ b ∈ l, b.toNat < 128) : Letts (one l) := by
  intro c hc
  obtain ⟨b, hb, rfl⟩ := List.mem_map.1 hc
  have e := Lib.decodeL_ascii b [] (h b hb)
  refine ⟨by rw [e]; rfl, by simp, ?_⟩
  rw [e]
  have := h b hb
  intro h2
  have h3 : b.toNat = 65533 := h2.1
  omega
theorem one_flat : ∀ l : List UInt8, l = (one l).flatten
  | [] => rfl
  | b :: r => by
    have := one_flat r
    simp only [one, List.map_cons, List.flatten_cons] at *
    rw [← this]; rfl

end Go.Proofs.YtjphmebhofkhcaaDoor.Rope
/- For RopeRuns: two rows that grow side by side, of ropes and of their texts. Plain statements on memory; no condition. -/
namespace Go.Proofs.YtjphmebhofkhcaaDoor.Rope
open Go.RowKit Go.Proofs.YtjphmebhofkhcaaDoorW.PrintWords Go.Proofs.YtjphmebhofkhcaaDoorW.PrintLast Go.Proofs.YtjphmebhofkhcaaDoorW.PrintMore
set_option linter.unusedVariables false
set_option linter.unusedSimpArgs false
/-- An act. -/
structure Act where
  f0 : Int
  f1 : Int
  f2 : Int
  f3 : ByteArray
/-- b is a rope whose text is s. -/
def Rp (w : World) (b : Option Addr) (s : ByteArray) : Prop := ∃ t cs, Is w (Value.pointer b) t cs ∧ s.data.toList = cs.flatten
theorem Is.rp {w : World} {v : Value} {t : Option T} {cs : List (List UInt8)} {s : ByteArray} (h : Is w v t cs) (hs : s.data.toList = cs.flatten) : ∃ b, v = Value.pointer b ∧ Rp w b s := by
  obtain ⟨hr, hg, hz⟩ := h
  cases t with
  | none => have e : v = .pointer none := hr; subst e; exact ⟨none, rfl, none, cs, ⟨rfl, hg, hz⟩, hs⟩
  | some t => obtain ⟨b, rfl, ht⟩ := hr; exact ⟨some ⟨b, 0, none⟩, rfl, some t, cs, ⟨⟨b, rfl, ht⟩, hg, hz⟩, hs⟩
theorem Rp.below {w w1 : World} {b : Option Addr} {s : ByteArray} (h : Rp w b s) (hb : Below w.heap.size w w1) : Rp w1 b s := by
  obtain ⟨t, cs, h, hs⟩ := h
  exact ⟨t, cs, h.below hb, hs⟩
theorem IsR.move {w w1 : World} (hm : ∀ (g : Nat) (cs : Array Value), w.heap[g]? = some (.cells cs 103 (0, 0)) → w1.heap[g]? = w.heap[g]?) {v : Value} {t : Option T} (h : IsR w v t) : IsR w1 v t := by
  cases t with
  | none => exact h
  | some t => obtain ⟨b, e, h⟩ := h; exact ⟨b, e, h.move hm⟩
theorem Rp.move {w w1 : World} (hm : ∀ (g : Nat) (cs : Array Value), w.heap[g]? = some (.cells cs 103 (0, 0)) → w1.heap[g]? = w.heap[g]?) {b : Option Addr} {s : ByteArray} (h : Rp w b s) : Rp w1 b s := by
  obtain ⟨t, cs, h, hs⟩ := h
  exact ⟨t, cs, ⟨h.r.move hm, h.g, h.z⟩, hs⟩
/-- A row that a call makes, of values of one cell. -/
def OwnE {α : Type} (enc : α → Value) (e : TypeId) (w : World) (base : Nat) (v : Value) (xs : List α) : Prop := w.ownsRow base e 1 v xs.length (encs enc xs)
theorem OwnE.row {α : Type} {enc : α → Value} {e : TypeId} {w : World} {base : Nat} {v : Value} {xs : List α} (h : OwnE enc e w base v xs) (h0 : 0 < xs.length) :
    ∃ g c, v = .slice (some ⟨g, 0, none⟩) xs.length c ∧ xs.length ≤ c ∧ ∀ (j : Nat) x, xs[j]? = some x → w.cell? ⟨g, j, none⟩ = some (enc x) := by
  obtain ⟨h1, h2 | ⟨g, cap, cur, e1, hg, hh, hc, hm, hs, ht⟩⟩ := h
  · omega
  · refine ⟨g, cap, e1, hc, fun j x hj => ?_⟩
    rw [blk_cell hh j]
    have hjl : j < xs.length := (List.getElem?_eq_some_iff.1 hj).1
    have : (cur.toList.take (xs.length * 1))[j]? = some (enc x) := by rw [ht, encs, List.getElem?_map, hj]; rfl
    rw [List.getElem?_take_of_lt (by omega)] at this
    simpa using this
theorem OwnE.move {α : Type} {enc : α → Value} {e : TypeId} {w w1 : World} {base : Nat} {v : Value} {xs : List α} (h : OwnE enc e w base v xs) (hm : ∀ (g : Nat) (cs : Array Value), w.heap[g]? = some (.cells cs e (0, 0)) → w1.heap[g]? = w.heap[g]?) : OwnE enc e w1 base v xs :=
  own_move h fun k hk => by obtain ⟨cs, hc⟩ := own_typed h k hk; exact hm k cs hc
theorem OwnE.below {α : Type} {enc : α → Value} {e : TypeId} {w w1 : World} {base : Nat} {v : Value} {xs : List α} (h : OwnE enc e w base v xs) (hb : Below w.heap.size w w1) : OwnE enc e w1 base v xs := h.move fun g cs hc => hb.block g (blk_lt hc)
/-- Where a row of one type grows, blocks of another stay. -/
theorem OwnE.grown {α : Type} {enc : α → Value} {e : TypeId} {w w1 : World} {base : Nat} {v : Value} {xs : List α} (h : OwnE enc e w base v xs) (hg : w.grownBy w1 v.ownBlock) {t : TypeId} (ht : t ≠ e) : ∀ (g : Nat) (cs : Array Value), w.heap[g]? = some (.cells cs t (0, 0)) → w1.heap[g]? = w.heap[g]? := by
  intro g cs hc
  refine hg.block g (blk_lt hc) ?_
  intro e1
  obtain ⟨cs', hc'⟩ := own_typed h g e1.symm
  rw [hc] at hc'
  injection hc' with hc'
  injection hc' with _ hc'
  exact ht hc'
/-- What holds of both rows. -/
structure St (w wr : World) (vR vT : Value) (bs : List (Option Addr)) (ss : List ByteArray) : Prop where
  ropes : OwnE Value.pointer 27 wr w.heap.size vR bs
  texts : OwnE Value.string 9 wr w.heap.size vT ss
  len : ss.length = bs.length
  pos : 0 < bs.length
  all : ∀ (j : Nat) b s, bs[j]? = some b → ss[j]? = some s → Rp wr b s ∧ s.size ≤ 4000
  below : Below w.heap.size w wr
theorem St.next {w wr w1 : World} {vR vT : Value} {bs : List (Option Addr)} {ss : List ByteArray} (h : St w wr vR vT bs ss) (hb : Below wr.heap.size wr w1) : St w w1 vR vT bs ss :=
  ⟨h.ropes.below hb, h.texts.below hb, h.len, h.pos, fun j b s h1 h2 => ⟨(h.all j b s h1 h2).1.below hb, (h.all j b s h1 h2).2⟩, below_step h.below hb⟩
theorem St.rows {w wr : World} {vR vT : Value} {bs : List (Option Addr)} {ss : List ByteArray} (h : St w wr vR vT bs ss) :
    ∃ g c g' c', vR = .slice (some ⟨g, 0, none⟩) bs.length c ∧ vT = .slice (some ⟨g', 0, none⟩) bs.length c' := by
  obtain ⟨g, c, e, _, _⟩ := h.ropes.row h.pos
  obtain ⟨g', c', e', _, _⟩ := h.texts.row (by rw [h.len]; exact h.pos)
  exact ⟨g, c, g', c', e, by rw [e', h.len]⟩
theorem St.at {w wr : World} {g c g' c' : Nat} {n n' : Nat} {bs : List (Option Addr)} {ss : List ByteArray} (h : St w wr (.slice (some ⟨g, 0, none⟩) n c) (.slice (some ⟨g', 0, none⟩) n' c') bs ss) (k : Nat) (hk : k < bs.length) :
    ∃ b s, bs[k]? = some b ∧ ss[k]? = some s ∧ wr.cell? ⟨g, k, none⟩ = some (Value.pointer b) ∧ wr.cell? ⟨g', k, none⟩ = some (.string s) ∧ Rp wr b s ∧ s.size ≤ 4000 := by
  obtain ⟨b, hb⟩ : ∃ b, bs[k]? = some b := ⟨_, List.getElem?_eq_getElem hk⟩
  obtain ⟨s, hs⟩ : ∃ s, ss[k]? = some s := ⟨_, List.getElem?_eq_getElem (by rw [h.len]; exact hk)⟩
  obtain ⟨g1, c1, e1, _, h1⟩ := h.ropes.row h.pos
  obtain ⟨g2, c2, e2, _, h2⟩ := h.texts.row (by rw [h.len]; exact h.pos)
  injection e1 with e1; injection e1 with e1; injection e1 with e1
  injection e2 with e2; injection e2 with e2; injection e2 with e2
  subst e1; subst e2
  exact ⟨b, s, hb, hs, h1 k b hb, h2 k s hs, (h.all k b s hb hs).1, (h.all k b s hb hs).2⟩
end Go.Proofs.YtjphmebhofkhcaaDoor.Rope
