/- A list of Dirs that is read in parts and decoded: the plain law. No walk. -/
import Derived.Test.YtflofpnagfoeeaaDoorStLawA
import Derived.Test.YtflofpnagfoeeaaDoorStTrip
import Derived.Test.YtflofpnagfoeeaaDoorQ4
import Derived.Test.YtflofpnagfoeeaaDoorQ4
set_option linter.unusedSimpArgs false
set_option linter.unusedVariables false
namespace Go.Proofs.YtflofpnagfoeeaaDoor
open Go.RowKit Go.Proofs.YtflofpnagfoeeaaDoorW.PrintLast Go.Proofs.YtflofpnagfoeeaaDoorW.PrintWords Go.Proofs.YtflofpnagfoeeaaDoorW.PrintMore Go.Proofs.YtflofpnagfoeeaaDoor.Q

/-- Parts, one behind the other. -/
def cat : List ByteArray → ByteArray
  | [] => ⟨#[]⟩
  | s :: r => s ++ cat r
theorem empty_append (s : ByteArray) : (⟨#[]⟩ : ByteArray) ++ s = s := by apply ba_eq; simp
theorem append_empty (s : ByteArray) : s ++ (⟨#[]⟩ : ByteArray) = s := by apply ba_eq; simp
theorem ba_assoc (a b c : ByteArray) : a ++ b ++ c = a ++ (b ++ c) := by apply ba_eq; simp
theorem cat_size : ∀ ps : List ByteArray, (cat ps).size = total ps
  | [] => rfl
  | s :: r => by rw [cat, ByteArray.size_append, cat_size r, total_cons]
theorem cat_append : ∀ ps qs : List ByteArray, cat (ps ++ qs) = cat ps ++ cat qs
  | [], qs => (empty_append _).symm
  | s :: r, qs => by rw [List.cons_append, cat, cat, cat_append r qs, ba_assoc]
theorem total_append (ps qs : List ByteArray) : total (ps ++ qs) = total ps + total qs := by simp [total]
theorem extract_append (s t : ByteArray) : (s ++ t).extract s.size (s ++ t).size = t := by
  apply ba_eq
  rw [ByteArray.data_extract, Array.toList_extract, ByteArray.data_append, Array.toList_append]
  simp only [List.extract_eq_take_drop]
  rw [show s.size = s.data.toList.length from rfl, List.drop_left, List.take_of_length_le]
  rw [show (s ++ t).size = s.size + t.size from ByteArray.size_append]
  show t.data.toList.length ≤ s.size + t.size - s.data.toList.length
  have e1 : s.data.toList.length = s.size := rfl
  have e2 : t.data.toList.length = t.size := rfl
  omega

/-- All of the list can be encoded. -/
def Good (l : List S34) : Prop := Short l ∧ firstErr l = 0
theorem Good.tail {s : S34} {r : List S34} (h : ∀ x ∈ s :: r, shortD (toD x) ∧ (toD x).Wf ∧ chkD (toD x) = 0) : ∀ x ∈ r, shortD (toD x) ∧ (toD x).Wf ∧ chkD (toD x) = 0 := fun x hx => h x (List.mem_cons_of_mem _ hx)
theorem Good.all {l : List S34} (h : Good l) : ∀ x ∈ l, shortD (toD x) ∧ (toD x).Wf ∧ chkD (toD x) = 0 := fun x hx => ⟨(h.1.2 x hx).1, (h.1.2 x hx).2, firstErr_zero l h.2 x hx⟩
theorem dirs_cat : ∀ (l acc : List S34) (k : Nat), (∀ x ∈ l, shortD (toD x) ∧ (toD x).Wf ∧ chkD (toD x) = 0) → acc.length + l.length ≤ 20 → l.length + 1 ≤ k → styx_Dirs.l0 k (cat (encs l)) acc = some (acc ++ l, 0)
  | [], acc, k, h, hl, hk => by
    obtain ⟨k, rfl⟩ : ∃ j, k = j + 1 := ⟨k - 1, by omega⟩
    rw [styx_Dirs.l0, if_pos (by rw [ByteArray.toList_eq]; rfl), List.append_nil]
  | s :: r, acc, k, h, hl, hk => by
    simp only [List.length_cons] at hl hk
    obtain ⟨k, rfl⟩ : ∃ j, k = j + 1 := ⟨k - 1, by omega⟩
    obtain ⟨h1, h2, h3⟩ := h s (by simp)
    have hd := decF_enc (toD s) (cat (encs r)) h1 h2 h3
    have hz := enc_str (toD s) h1 h3
    have ht : total (encs r) ≤ 1024 * r.length := total_encs r (fun x hx => (h x (by simp [hx])).1) (fun x hx => (h x (by simp [hx])).2.2)
    rw [show encs (s :: r) = (encF (toD s)).1 :: encs r from rfl, cat]
    have hsz : ((encF (toD s)).1 ++ cat (encs r)).size = (encF (toD s)).1.size + total (encs r) := by rw [ByteArray.size_append, cat_size]
    have hf : styx_DecodeDir.f ((encF (toD s)).1 ++ cat (encs r)) = some (dirT (toD s) (encF (toD s)).1.size 0) := by
      unfold styx_DecodeDir.f
      rw [if_pos (by rw [hsz]; omega), hd]
    have hx := extract_append (encF (toD s)).1 (cat (encs r))
    have hne : ((encF (toD s)).1 ++ cat (encs r)).toList ≠ ([] : List UInt8) := by
      intro e
      have := congrArg List.length e
      rw [ByteArray.toList_eq] at this
      have h4 : ((encF (toD s)).1 ++ cat (encs r)).data.toList.length = ((encF (toD s)).1 ++ cat (encs r)).size := rfl
      rw [h4, hsz, List.length_nil] at this
      omega
    rw [styx_Dirs.l0, if_neg hne, hf]
    simp only [Option.bind_some, dirT, if_true]
    rw [if_pos (by omega), if_pos (by omega), if_pos (by omega), Int.toNat_natCast, hx]
    refine (dirs_cat r _ k (Good.tail h) (by simp; omega) (by omega)).trans ?_
    rw [List.append_assoc]
    rfl
theorem skip_take : ∀ (ps : List ByteArray) (j : Nat), (∀ s ∈ ps, 0 < s.size) → skipOff (total (ps.take j)) ps = (0, ps.drop j)
  | [], j, h => by simp [skipOff, total]
  | s :: r, 0, h => by simp [skipOff, total]
  | s :: r, j + 1, h => by
    have h1 := h s (by simp)
    rw [List.take_succ_cons, total_cons, skipOff, if_pos (by omega), show ((s.size + total (r.take j) : Nat) : Int) - s.size = total (r.take j) by omega, skip_take r j (fun x hx => h x (by simp [hx]))]
    rfl
/-- What goes into count: some of the parts, one at least if it goes in. -/
theorem part_some (count : Int) : ∀ (r : List ByteArray) (out : ByteArray), (out.size : Int) ≤ count → ∃ m, m ≤ r.length ∧ takeAll count out r = out ++ cat (r.take m) ∧ ((takeAll count out r).size : Int) ≤ count ∧ (∀ s t, r = s :: t → (out.size : Int) + s.size ≤ count → 1 ≤ m)
  | [], out, h => ⟨0, Nat.le_refl _, by simp [takeAll, cat, append_empty], by simpa [takeAll] using h, fun s t e => by cases e⟩
  | s :: r, out, h => by
    rw [takeAll]
    by_cases hc : (out.size : Int) + s.size > count
    · rw [if_pos hc]
      refine ⟨0, Nat.zero_le _, by simp [cat, append_empty], h, fun s' t e hs => ?_⟩
      cases e
      omega
    · rw [if_neg hc]
      obtain ⟨m, hm, he, hz, _⟩ := part_some count r (out ++ s) (by rw [ByteArray.size_append]; omega)
      refine ⟨m + 1, by simp; omega, ?_, hz, fun _ _ _ _ => by omega⟩
      rw [he, List.take_succ_cons, cat, ba_assoc]
theorem enc_sizes {l : List S34} (h : Good l) : ∀ s ∈ encs l, 0 < s.size ∧ s.size ≤ 1024 := by
  intro s hs
  obtain ⟨x, hx, rfl⟩ := List.mem_map.1 hs
  have h1 := h.all x hx
  have h2 := enc_str (toD x) h1.1 h1.2.2
  omega
/-- A part that is read: where j elements are read already. -/
theorem part_read {l : List S34} (h : Good l) (j : Nat) (hj : j ≤ l.length) (count : Int) (hc : 1024 ≤ count) :
    ∃ m, m ≤ l.length - j ∧ entAll l (cat ((encs l).take j)).size count = (cat (((encs l).drop j).take m), 0) ∧ ((cat (((encs l).drop j).take m)).size : Int) ≤ count ∧ (j < l.length → 1 ≤ m) := by
  have hz := enc_sizes h
  obtain ⟨m, hm, he, hs, h1⟩ := part_some count ((encs l).drop j) ⟨#[]⟩ (by simp [ByteArray.size]; omega)
  have hlen : (encs l).length = l.length := by simp [encs]
  rw [empty_append] at he
  refine ⟨m, by rw [List.length_drop, hlen] at hm; exact hm, ?_, by rw [← he]; exact hs, fun hlt => ?_⟩
  · unfold entAll entR
    rw [if_pos h.2, cat_size, skip_take _ j (fun s hs => (hz s hs).1)]
    simp only
    rw [if_neg (by simp; omega)]
    have hb : tooBig count ((encs l).drop j) = false := by
      cases hd : (encs l).drop j with
      | nil => rfl
      | cons s t =>
        have hm2 : s ∈ encs l := List.mem_of_mem_drop (by rw [hd]; simp)
        have := (hz s hm2).2
        simp only [tooBig, decide_eq_false_iff_not]
        omega
    rw [hb, if_neg (by simp), he]
  · cases hd : (encs l).drop j with
    | nil =>
      have h3 := congrArg List.length hd
      rw [List.length_drop, hlen] at h3
      simp at h3
      omega
    | cons s t =>
      have hm2 : s ∈ encs l := List.mem_of_mem_drop (by rw [hd]; simp)
      have h4 := (hz s hm2).2
      exact h1 s t hd (by rw [show (⟨#[]⟩ : ByteArray).size = 0 from rfl]; omega)
theorem cat_take_add (ps : List ByteArray) (j m : Nat) : cat (ps.take j) ++ cat ((ps.drop j).take m) = cat (ps.take (j + m)) := by
  rw [← cat_append, List.take_add]
theorem cat_empty {l : List S34} (h : Good l) (j m : Nat) (hj : j + m ≤ l.length) (hm : 1 ≤ m) : (cat (((encs l).drop j).take m)).toList.isEmpty = false := by
  have hlen : (encs l).length = l.length := by simp [encs]
  cases hd : ((encs l).drop j).take m with
  | nil =>
    have h3 := congrArg List.length hd
    rw [List.length_take, List.length_drop, hlen] at h3
    simp at h3
    omega
  | cons s t =>
    have hm2 : s ∈ encs l := List.mem_of_mem_drop (List.mem_of_mem_take (by rw [hd]; simp))
    have h4 := (enc_sizes h s hm2).1
    rw [cat, ByteArray.toList_eq]
    cases hq : (s ++ cat t).data.toList with
    | nil =>
      have h5 := congrArg List.length hq
      have h6 : (s ++ cat t).data.toList.length = (s ++ cat t).size := rfl
      rw [h6, ByteArray.size_append, List.length_nil] at h5
      omega
    | cons _ _ => rfl
theorem total_take : ∀ (ps : List ByteArray) (j : Nat), total (ps.take j) ≤ total ps
  | [], j => by simp
  | s :: r, 0 => by simp [total]
  | s :: r, j + 1 => by
    rw [List.take_succ_cons, total_cons, total_cons]
    have := total_take r j
    omega
theorem cat_total {l : List S34} (h : Good l) (j : Nat) : (cat ((encs l).take j)).size ≤ 20480 := by
  rw [cat_size]
  have h1 := total_take (encs l) j
  have h2 := total_encs l (fun x hx => (h.all x hx).1) (fun x hx => (h.all x hx).2.2)
  have h3 := h.1.1
  omega
/-- Equal lists. -/
theorem equal_l0 (l : List S34) (hl : l.length ≤ 20) : ∀ (d i k : Nat), l.length - i = d → i ≤ l.length → d < k → api_Dir.l0 k l l l.length i = some true
  | 0, i, k, hd, hi, hk => by
    obtain ⟨k, rfl⟩ : ∃ j, k = j + 1 := ⟨k - 1, by omega⟩
    rw [api_Dir.l0, if_neg (by omega)]
  | d + 1, i, k, hd, hi, hk => by
    obtain ⟨k, rfl⟩ : ∃ j, k = j + 1 := ⟨k - 1, by omega⟩
    have e2 : wrap64 ((i : Int) + 1) = ((i + 1 : Nat) : Int) := by unfold wrap64; omega
    rw [api_Dir.l0, if_pos (by omega), if_pos (by omega), if_pos (by omega), if_pos (by omega), e2]
    simp only [beq_self_eq_true, Bool.not_true, Bool.or_self, Bool.false_eq_true, if_false]
    exact equal_l0 l hl d (i + 1) k (by omega) (by omega) (by omega)
theorem equal_same (l : List S34) (hl : l.length ≤ 20) : api_Dir.f 30 l l = some true := by
  unfold api_Dir.f
  rw [if_pos rfl]
  exact equal_l0 l hl l.length 0 30 (by omega) (by omega) (by omega)
theorem dirs_all {l : List S34} (h : Good l) : styx_Dirs.f 30 (cat (encs l)) = some (l, 0) := by
  have := dirs_cat l [] 30 h.all (by simpa using h.1.1) (by have := h.1.1; omega)
  simpa [styx_Dirs.f] using this
theorem firstErr_any (l : List S34) : (l.any fun s => decide (chkD (toD s) ≠ 0)) = !decide (firstErr l = 0) := by
  induction l with
  | nil => simp [firstErr]
  | cons s r ih =>
    by_cases h : chkD (toD s) = 0
    · simp only [List.any_cons, ih, firstErr, h, if_true]
      simp
    · simp [firstErr, h]
end Go.Proofs.YtflofpnagfoeeaaDoor
