/- The walks of Parts and Text: a rope's parts, and its text. Conditions: texts of at most 2^40 bytes. -/
import Derived.Test.YtdbdcnpajeflkaaDoorGRope6h
import Derived.Test.YtdbdcnpajeflkaaDoorGShelf
namespace Go.Proofs.YtdbdcnpajeflkaaDoor.Rope
open Go.RowKit Go.Proofs.YtdbdcnpajeflkaaDoorW.PrintWords Go.Proofs.YtdbdcnpajeflkaaDoorW.PrintLast Go.Proofs.YtdbdcnpajeflkaaDoorW.PrintMore
set_option linter.unusedVariables false
set_option linter.unusedSimpArgs false
theorem info_str : (Tryd.prog.info? 9).map (fun i => (i.zero, i.size, i.bytes)) = some (some (.string ByteArray.empty), 1, 16) := by kernel_rfl
/-- A new list of strings comes back. -/
def RetL (xs : List ByteArray) (w : World) (e : Ending) (w' : World) : Prop := ∃ v, e = .returned v ∧ Kd.R Kd.string 9 w' w.heap.size (fun _ => True) v xs ∧ Below w.heap.size w w'
theorem T.parts_le : ∀ t : T, t.Ne → t.parts.length ≤ t.bytes
  | .leaf s, h => by simp only [parts, bytes, List.length_singleton]; exact h
  | .node l r, h => by have := parts_le l h.1; have := parts_le r h.2; simp only [parts, bytes, List.length_append]; omega
theorem partsO_le (t : Option T) (h : NeO t) : (partsO t).length ≤ bytesO t := by
  cases t with
  | none => exact Nat.le_refl _
  | some t => exact t.parts_le h
theorem Kd.R_C {α : Type} {d : Kd α} {e : Nat} {w : World} {base : Nat} {ok : Nat → Prop} {A : Option Addr} {c : Nat} {xs : List α} (h : d.R e w base ok (.slice A xs.length c) xs) : d.C w A xs.length xs := by
  obtain ⟨A', c', e1, hl, hc⟩ := Kd.R_reads h
  injection e1 with e1 _ _
  subst e1
  exact hc
set_option maxRecDepth 100000 in
theorem parts_leaf (s : ByteArray) (b : Nat) (w : World) (h : IsT w (.leaf s) b) : Calls Tryd.prog 24 #[.pointer (some ⟨b, 0, none⟩)] w (RetL [s] w) := by
  have c3 : w.cell? ⟨b, 3, none⟩ = some (.int .i64 0) := blk_cell h 3
  have c0 : w.cell? ⟨b, 0, none⟩ = some (.string s) := blk_cell h 0
  clear h
  go_enter Tryd.func24, Tryd.ntmps24
  go_wp2
  go_ret
  refine ⟨_, rfl, ⟨fun _ _ => trivial, [.string s], ?_, ?_⟩, (Below.refl _ _).alloc (Nat.le_refl _) _⟩
  · have h2 := World.ownsRow_lit (base := w.heap.size) (e := 9) (size := 1) w #[.string s] 1 (Nat.le_refl _) (by simp [maxLen]) (by simp)
    simp only [List.size_toArray, List.length_singleton, Nat.mul_one] at h2
    exact h2
  · refine ⟨rfl, fun j p hj => ?_⟩
    obtain ⟨hjl, hp⟩ := List.getElem?_eq_some_iff.1 hj
    have : j = 0 := by simpa using hjl
    subst this
    have hp' : s = p := by simpa using hp
    subst hp'
    exact (rfl : [Value.string s] = [Value.string s])
theorem parts_nil (w : World) : Calls Tryd.prog 24 #[.pointer none] w (RetL [] w) := by
  go_enter Tryd.func24, Tryd.ntmps24
  go_wp2
  go_ret
  exact ⟨_, rfl, Kd.R_nil _ _ _ _ _, Below.refl _ _⟩
set_option maxRecDepth 100000 in
set_option maxHeartbeats 2000000 in
theorem parts_node (l r : T) (b : Nat) (w : World) (h : IsT w (.node l r) b) (hz : l.parts.length + r.parts.length ≤ 1099511627776)
    (ihl : ∀ (bl : Nat) (W : World), IsT W l bl → Calls Tryd.prog 24 #[.pointer (some ⟨bl, 0, none⟩)] W (RetL l.parts W))
    (ihr : ∀ (br : Nat) (W : World), IsT W r br → Calls Tryd.prog 24 #[.pointer (some ⟨br, 0, none⟩)] W (RetL r.parts W)) :
    Calls Tryd.prog 24 #[.pointer (some ⟨b, 0, none⟩)] w (RetL (l.parts ++ r.parts) w) := by
  obtain ⟨bl, br, c, hl, hr⟩ := h.sides
  have hd4 : (((T.node l r).h : Int) == 0) = false := by simp [T.h]; omega
  have c1 : w.cell? ⟨b, 1, none⟩ = some (.pointer (some ⟨bl, 0, none⟩)) := blk_cell c 1
  have c2 : w.cell? ⟨b, 2, none⟩ = some (.pointer (some ⟨br, 0, none⟩)) := blk_cell c 2
  have c3 : w.cell? ⟨b, 3, none⟩ = some (.int .i64 ((T.node l r).h : Int)) := blk_cell c 3
  generalize (T.node l r).h = th at *
  generalize (T.node l r).runes = tn at *
  generalize (T.node l r).bytes = tz at *
  have IL := Lib.hid ihl
  have IR := Lib.hid ihr
  have HL := Lib.hid hl
  have HR := Lib.hid hr
  have C1 := Lib.hid c1
  have C2 := Lib.hid c2
  have Z := Lib.hid hz
  clear h c hl hr ihl ihr hz
  go_enter Tryd.func24, Tryd.ntmps24
  go_wp2
  have QS := Lib.hid (show JS w ⟨b, 1, none⟩ ⟨b, 2, none⟩ (.pointer (some ⟨bl, 0, none⟩)) (.pointer (some ⟨br, 0, none⟩)) w from ⟨c1, c2, Below.refl _ _⟩)
  clear c1 c2 c3 hd4
  go_region_held3 (fun w' => JS w ⟨b, 1, none⟩ ⟨b, 2, none⟩ (.pointer (some ⟨bl, 0, none⟩)) (.pointer (some ⟨br, 0, none⟩)) w')
    (first | assumption | exact HS3.out | exact HSl.out | exact HSr.out | exact QS.out.next (by repeat (first | exact Below.refl _ _ | apply pw_below_drewN | apply Below.drew)))
    (first
      | (go_at_call 24; (with_reducible refine (IL.out bl _ ?ca).mono ?_); (case ca => exact HL.out.below (JS.b (w := w) (p := ⟨b, 1, none⟩) (q := ⟨b, 2, none⟩) (u := .pointer (some ⟨bl, 0, none⟩)) (v := .pointer (some ⟨br, 0, none⟩)) (by assumption))); rintro e wl ⟨vl, rfl, hr, hB⟩; have HSl := Lib.hid (JS.next (w := w) (p := ⟨b, 1, none⟩) (q := ⟨b, 2, none⟩) (u := .pointer (some ⟨bl, 0, none⟩)) (v := .pointer (some ⟨br, 0, none⟩)) (by assumption) hB); have RL := Lib.hid (Kd.R_lower hr (JS.b (w := w) (p := ⟨b, 1, none⟩) (q := ⟨b, 2, none⟩) (u := .pointer (some ⟨bl, 0, none⟩)) (v := .pointer (some ⟨br, 0, none⟩)) (by assumption)).size); obtain ⟨Al, cl, el⟩ := Kd.R_slice hr; subst el; have BL := Lib.hid hB; clear hr hB)
      | (go_at_call 24; (with_reducible refine (IR.out br _ ?cb).mono ?_); (case cb => exact HR.out.below (JS.b (w := w) (p := ⟨b, 1, none⟩) (q := ⟨b, 2, none⟩) (u := .pointer (some ⟨bl, 0, none⟩)) (v := .pointer (some ⟨br, 0, none⟩)) (by assumption))); rintro e wr ⟨vr, rfl, hr, hB⟩; have HSr := Lib.hid (JS.next (w := w) (p := ⟨b, 1, none⟩) (q := ⟨b, 2, none⟩) (u := .pointer (some ⟨bl, 0, none⟩)) (v := .pointer (some ⟨br, 0, none⟩)) (by assumption) hB); have RR := Lib.hid hr; obtain ⟨Ar, cr, er⟩ := Kd.R_slice hr; subst er; have BR := Lib.hid hB; clear hr hB)
      | (refine Kd.R_append_rows_step (w0 := w) (Rr := fun x cs => cs = [Value.string x]) Kd.string w.heap.size (by rfl) _ _ 39 9 (.string ByteArray.empty) 16 (by rfl) Tryd.underlying39 info_str rfl (by decide) (by decide) (.slice Al l.parts.length cl) l.parts r.parts Ar r.parts.length cr (fun _ => True) (fun _ => False) (by rfl) (by rfl) ?h1 ?h2 (fun x cs hx => hx) (fun _ hk => hk.elim) (fun _ _ => trivial) ?h3 ?h4 ?h5 ?h6
         (case h1 => first | exact RL.out | exact Kd.R_below RL.out BR.out)
         (case h2 => first | exact (Kd.C_below (Kd.R_C RR.out) BL.out) | exact Kd.R_C RR.out)
         (case h3 => exact JS.b (w := w) (p := ⟨b, 1, none⟩) (q := ⟨b, 2, none⟩) (u := .pointer (some ⟨bl, 0, none⟩)) (v := .pointer (some ⟨br, 0, none⟩)) (by assumption))
         (case h4 => exact (JS.b (w := w) (p := ⟨b, 1, none⟩) (q := ⟨b, 2, none⟩) (u := .pointer (some ⟨bl, 0, none⟩)) (v := .pointer (some ⟨br, 0, none⟩)) (by assumption)).size)
         (case h5 => have := Z.out; omega)
         intro v3 w3 hr3 hb3 hg3 hat3
         have HS3 := Lib.hid (show JS w ⟨b, 1, none⟩ ⟨b, 2, none⟩ (.pointer (some ⟨bl, 0, none⟩)) (.pointer (some ⟨br, 0, none⟩)) w3 from ⟨pw_cell_below hb3 C1.out, pw_cell_below hb3 C2.out, hb3⟩)
         have R3 := Lib.hid hr3
         clear hr3 hb3 hg3 hat3))
  all_goals
    go_wp2
    go_ret
    exact ⟨v3, rfl, R3.out, HS3.out.2.2⟩
theorem partsT_calls : ∀ (t : T) (b : Nat) (w : World), IsT w t b → t.Ne → t.bytes ≤ 1099511627776 → Calls Tryd.prog 24 #[.pointer (some ⟨b, 0, none⟩)] w (RetL t.parts w)
  | .leaf s, b, w, h, _, _ => parts_leaf s b w h
  | .node l r, b, w, h, hn, hz => by
    have z : (T.node l r).bytes = l.bytes + r.bytes := rfl
    have := l.parts_le hn.1
    have := r.parts_le hn.2
    exact parts_node l r b w h (by omega) (fun bl W k => partsT_calls l bl W k hn.1 (by omega)) (fun br W k => partsT_calls r br W k hn.2 (by omega))
theorem parts_calls (t : Option T) (v : Value) (w : World) (h : IsR w v t) (hn : NeO t) (hz : bytesO t ≤ 1099511627776) : Calls Tryd.prog 24 #[v] w (RetL (partsO t) w) := by
  cases t with
  | none =>
    have e : v = .pointer none := h
    subst e
    exact parts_nil w
  | some t => obtain ⟨b, rfl, h⟩ := h; exact partsT_calls t b w h hn hz
/-- The text of a rope. -/
def textL (t : Option T) : List UInt8 := ((partsO t).map (·.data.toList)).flatten
def textO (t : Option T) : ByteArray := ⟨(textL t).toArray⟩
theorem join_empty : ∀ xs : List (List UInt8), Lib.join xs [] = xs.flatten
  | [] => rfl
  | x :: r => by rw [Lib.join_cons]; simp [Lib.joinTail]
theorem T.text_length : ∀ t : T, ((t.parts.map (·.data.toList)).flatten).length = t.bytes
  | .leaf s => by simp [parts, bytes]
  | .node l r => by simp only [parts, bytes, List.map_append, List.flatten_append, List.length_append, text_length l, text_length r]
theorem textL_length (t : Option T) : (textL t).length = bytesO t := by
  cases t with
  | none => rfl
  | some t => exact t.text_length
/-- The cells of a list of strings that is read. -/
theorem row_strings {w : World} {base e : Nat} {ok : Nat → Prop} {v : Value} {xs : List ByteArray} (h : Kd.R Kd.string e w base ok v xs) :
    (v = .slice none 0 0 ∧ xs = []) ∨ ∃ g c, v = .slice (some ⟨g, 0, none⟩) xs.length c ∧ g < w.heap.size ∧ xs.length ≤ c ∧ ∀ (j : Nat) x, xs[j]? = some x → w.cell? ⟨g, 0 + j, none⟩ = some (.string x) := by
  have ho := Kd.own_of_R (enc := Value.string) (h1 := fun _ => rfl) h
  obtain ⟨h1, h2 | ⟨g, cap, cur, e1, hg, hh, hc, hm, hs, ht⟩⟩ := ho
  · exact .inl ⟨h2.1, List.eq_nil_of_length_eq_zero h2.2⟩
  · refine .inr ⟨g, cap, e1, blk_lt hh, hc, fun j x hj => ?_⟩
    rw [Nat.zero_add, blk_cell hh j]
    have hjl : j < xs.length := (List.getElem?_eq_some_iff.1 hj).1
    have : (cur.toList.take (xs.length * 1))[j]? = some (.string x) := by rw [ht, encs, List.getElem?_map, hj]; rfl
    rw [List.getElem?_take_of_lt (by omega)] at this
    simpa using this
set_option maxRecDepth 100000 in
theorem text_calls (t : Option T) (v : Value) (w : World) (h : IsR w v t) (hn : NeO t) (hz : bytesO t ≤ 1099511627776) :
    Calls Tryd.prog 9 #[v] w fun e w' => e = .returned (.string (textO t)) ∧ Below w.heap.size w w' := by
  have hl := partsO_le t hn
  have ht := textL_length t
  have hJ : Lib.join ((partsO t).map (·.data.toList)) (ByteArray.mk #[]).data.toList = textL t := join_empty _
  have HJ := Lib.hid hJ
  have HT := Lib.hid ht
  have H := Lib.hid h
  clear h hJ ht
  go_enter Tryd.func9, Tryd.ntmps9
  go_wp2_with fail
  (go_at_call 24; refine (parts_calls t v _ H.out hn hz).mono ?_; rintro e w1 ⟨v1, rfl, k1, hb⟩)
  have HB := Lib.hid hb
  rcases row_strings k1 with ⟨rfl, e2⟩ | ⟨g, c, rfl, hg, hc, hcells⟩
  · have E : textO t = ⟨#[]⟩ := by unfold textO textL; rw [e2]; rfl
    have EE := Lib.hid E
    clear k1 hb e2 E
    go_wp2_with fail
    (go_at_call 23; refine (Tryd.strings_Join_none none 0 _ _).mono ?_; rintro e w2 ⟨rfl, rfl⟩)
    go_wp2
    go_ret
    exact ⟨by rw [EE.out]; rfl, HB.out⟩
  · have KC := Lib.hid hcells
    have HG := Lib.hid hg
    clear k1 hb hcells hg
    go_wp2_with fail
    (go_at_call 23; refine (Tryd.strings_Join g 0 c (partsO t) ⟨#[]⟩ _ KC.out HG.out (by omega) hc (by rw [HJ.out, HT.out]; omega)).mono ?_; rintro e w2 ⟨rfl, hb2⟩)
    have HB2 := Lib.hid hb2
    clear hb2
    go_wp2
    go_ret
    refine ⟨?_, below_step HB.out HB2.out⟩
    rw [HJ.out]; rfl
end Go.Proofs.YtdbdcnpajeflkaaDoor.Rope
