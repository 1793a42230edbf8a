/- Entries: what the program returns. No walk. -/
import Derived.Test.YtflofpnagfoeeaaDoorStCod
import Derived.Test.YtflofpnagfoeeaaDoorStFew
import Derived.Test.YtflofpnagfoeeaaDoorQ3
set_option linter.unusedSimpArgs false
set_option linter.unusedVariables false
namespace Go.Proofs.YtflofpnagfoeeaaDoor
open Go.RowKit Go.Proofs.YtflofpnagfoeeaaDoorW.PrintLast Go.Proofs.YtflofpnagfoeeaaDoorW.PrintWords Go.Proofs.YtflofpnagfoeeaaDoorW.PrintMore Go.Proofs.YtflofpnagfoeeaaDoor.Q

/-- The first error of a list of Dirs. -/
def firstErr : List S34 → Int
  | [] => 0
  | s :: r => if chkD (toD s) = 0 then firstErr r else chkD (toD s)
def encs (l : List S34) : List ByteArray := l.map fun s => (encF (toD s)).1
/-- Parts as long as they go into count. -/
def takeAll (count : Int) (out : ByteArray) : List ByteArray → ByteArray
  | [] => out
  | s :: r => if (out.size : Int) + s.size > count then out else takeAll count (out ++ s) r
def skipOff (off : Int) : List ByteArray → Int × List ByteArray
  | [] => (off, [])
  | s :: r => if off > 0 then skipOff (off - s.size) r else (off, s :: r)
def tooBig (count : Int) : List ByteArray → Bool
  | [] => false
  | s :: _ => decide ((s.size : Int) > count)
def entR (off count : Int) (ps : List ByteArray) : ByteArray × Int :=
  if count < 0 ∨ (skipOff off ps).1 ≠ 0 then (⟨#[]⟩, 11) else if tooBig count (skipOff off ps).2 = true then (⟨#[]⟩, 3) else (takeAll count ⟨#[]⟩ (skipOff off ps).2, 0)
/-- All that a list of Dirs may be. -/
def Short (l : List S34) : Prop := l.length ≤ 20 ∧ ∀ s ∈ l, shortD (toD s) ∧ (toD s).Wf
def entAll (l : List S34) (off count : Int) : ByteArray × Int := if firstErr l = 0 then entR off count (encs l) else (⟨#[]⟩, firstErr l)

theorem rd_get (l : List S34) (i : Nat) (s : S34) (r : List S34) (h : l.drop i = s :: r) : i < l.length ∧ rd_T34 l (i : Int) = s ∧ l.drop (i + 1) = r ∧ s ∈ l := by
  have h0 : i < l.length := by
    rcases Nat.lt_or_ge i l.length with h1 | h1
    · exact h1
    · rw [List.drop_eq_nil_of_le h1] at h; cases h
  rw [List.drop_eq_getElem_cons h0] at h
  simp only [List.cons.injEq] at h
  refine ⟨h0, ?_, h.2, ?_⟩
  · unfold rd_T34
    rw [Int.toNat_natCast, List.getD_eq_getElem?_getD, List.getElem?_eq_getElem h0]
    exact h.1
  · rw [← h.1]; exact List.getElem_mem h0
theorem styx_f (d : DirV) (hs : shortD d) (hw : d.Wf) : styx_EncodeDir.f d.kind d.vers d.path d.mode d.time d.length d.name d.owner d.group d.last = some (if chkD d = 0 then (encF d).1 else ⟨#[]⟩, chkD d) := by
  unfold styx_EncodeDir.f
  rw [show dirV d.kind d.vers d.path d.mode d.time d.length d.name d.owner d.group d.last = d from rfl, if_pos (DirV.wf_ok hw)]
  have h := encF_err d hs
  congr 1
  rw [← h]
  unfold encF
  split
  · rfl
  · rfl
theorem styx_l0 (l : List S34) (hl : Short l) (x1 x2 : Int) : ∀ (r : List S34) (i : Nat) (acc : List ByteArray) (k : Nat), l.drop i = r → acc.length = i →
    styx_Entries.l0 (k + r.length + 1) x1 x2 acc l l.length i = if firstErr r = 0 then styx_Entries.l1 k x1 x2 (acc ++ encs r) else some (⟨#[]⟩, firstErr r)
  | [], i, acc, k, h, ha => by
    have h0 : l.length ≤ i := by simpa using h
    rw [show k + ([] : List S34).length + 1 = k + 1 from rfl, styx_Entries.l0, if_neg (by omega)]
    simp [firstErr, encs]
  | s :: r, i, acc, k, h, ha => by
    obtain ⟨h0, h1, h2, h3⟩ := rd_get l i s r h
    rw [show k + (s :: r).length + 1 = (k + r.length + 1) + 1 by simp; omega, styx_Entries.l0, if_pos (by omega), if_pos (by omega), if_pos (by omega), h1]
    have hf := styx_f (toD s) (hl.2 s h3).1 (hl.2 s h3).2
    unfold toD at hf
    rw [hf]
    simp only [Option.bind_some]
    by_cases hc : chkD (toD s) = 0
    · have hc' := hc
      unfold toD at hc'
      rw [if_pos hc', if_pos (by rw [ha]; have := hl.1; omega)]
      rw [if_pos hc']
      have h4 : wrap64 ((i : Int) + 1) = ((i + 1 : Nat) : Int) := by have := hl.1; unfold wrap64; omega
      rw [h4, styx_l0 l hl x1 x2 r (i + 1) _ k h2 (by simp [ha])]
      simp only [firstErr, hc, if_true, encs, List.map_cons]
      rw [List.append_assoc]
      rfl
    · have hc' := hc
      unfold toD at hc'
      rw [if_neg hc']
      simp only [firstErr, hc, if_false]
      rfl

def total (ps : List ByteArray) : Nat := (ps.map (·.size)).sum
theorem total_cons (s : ByteArray) (r : List ByteArray) : total (s :: r) = s.size + total r := by simp [total]
theorem rdOf_get (l : List ByteArray) (i : Nat) (s : ByteArray) (r : List ByteArray) (h : l.drop i = s :: r) : i < l.length ∧ rdOf ByteArray.empty l (i : Int) = s ∧ l.drop (i + 1) = r := by
  have h0 : i < l.length := by
    rcases Nat.lt_or_ge i l.length with h1 | h1
    · exact h1
    · rw [List.drop_eq_nil_of_le h1] at h; cases h
  rw [List.drop_eq_getElem_cons h0] at h
  simp only [List.cons.injEq] at h
  refine ⟨h0, ?_, h.2⟩
  unfold rdOf
  rw [Int.toNat_natCast, List.getD_eq_getElem?_getD, List.getElem?_eq_getElem h0]
  exact h.1
theorem styx_l2 (count : Int) (ps : List ByteArray) (hp : ps.length ≤ 20) : ∀ (r : List ByteArray) (i : Nat) (out : ByteArray) (k : Nat), ps.drop i = r → out.size + total r ≤ 1000000 → r.length + 1 ≤ k →
    styx_Entries.l2 k count out ps ps.length i = some (takeAll count out r, 0)
  | [], i, out, k, h, ht, hk => by
    obtain ⟨k, rfl⟩ : ∃ j, k = j + 1 := ⟨k - 1, by omega⟩
    have h0 : ps.length ≤ i := by simpa using h
    rw [styx_Entries.l2, if_neg (by omega)]
    rfl
  | s :: r, i, out, k, h, ht, hk => by
    simp only [List.length_cons] at hk
    obtain ⟨k, rfl⟩ : ∃ j, k = j + 1 := ⟨k - 1, by omega⟩
    obtain ⟨h0, h1, h2⟩ := rdOf_get ps i s r h
    rw [total_cons] at ht
    have e1 : wrap64 ((out.size : Int) + s.size) = (out.size : Int) + s.size := by unfold wrap64; omega
    have e2 : wrap64 ((i : Int) + 1) = ((i + 1 : Nat) : Int) := by unfold wrap64; omega
    rw [styx_Entries.l2, if_pos (by omega), if_pos (by omega), if_pos (by omega), h1, e1, e2, takeAll]
    by_cases hc : (out.size : Int) + s.size > count
    · rw [if_pos hc, if_pos hc]
    · rw [if_neg hc, if_neg hc, if_pos (by omega)]
      exact styx_l2 count ps hp r (i + 1) (out ++ s) k h2 (by rw [ByteArray.size_append]; omega) (by omega)
theorem styx_j2 (off count : Int) (ps : List ByteArray) (hp : ps.length ≤ 20) (ht : total ps ≤ 1000000) (hoff : skipOff off ps = (off, ps)) (k : Nat) (hk : ps.length + 4 ≤ k) :
    styx_Entries.j2 k off count ps = some (entR off count ps) := by
  obtain ⟨k, rfl⟩ : ∃ j, k = j + 3 := ⟨k - 3, by omega⟩
  unfold entR
  rw [hoff, show k + 3 = (k + 1 + 1) + 1 by omega, styx_Entries.j2]
  have j3 : ∀ b, styx_Entries.j3 (k + 1 + 1) count ps b = if b = true then some (⟨#[]⟩, 11) else if tooBig count ps = true then some (⟨#[]⟩, 3) else some (takeAll count ⟨#[]⟩ ps, 0) := fun b => by
    rw [styx_Entries.j3]
    cases b
    · simp only [Bool.false_eq_true, if_false]
      have hj4 : styx_Entries.j4 (k + 1) count ps = some (takeAll count ⟨#[]⟩ ps, 0) := by
        rw [styx_Entries.j4]
        exact styx_l2 count ps hp ps 0 _ k rfl (by simpa [ByteArray.size] using ht) (by omega)
      cases ps with
      | nil => rw [if_neg (by simp), hj4]; simp [tooBig]
      | cons s r =>
        rw [if_pos (by simp only [List.length_cons]; omega), if_pos (by simp only [List.length_cons]; omega), hj4]
        simp only [tooBig, decide_eq_true_iff]
        rfl
    · simp only [if_true]
  rw [j3, j3]
  by_cases h1 : count < 0
  · simp [h1]
  · by_cases h2 : off = 0
    · simp [h1, h2]
      split
      · rfl
      · rfl
    · simp [h1, h2]
theorem styx_l1 (count : Int) : ∀ (ps : List ByteArray) (off : Int) (k : Nat), ps.length ≤ 20 → total ps ≤ 1000000 → off < 9223372036854775808 → 2 * ps.length + 6 ≤ k → styx_Entries.l1 k off count ps = some (entR off count ps)
  | [], off, k, hp, ht, ho, hk => by
    obtain ⟨k, rfl⟩ : ∃ j, k = j + 1 := ⟨k - 1, by omega⟩
    have hj := styx_j2 off count [] (by simp) ht rfl k (by simp at hk ⊢; omega)
    rw [styx_Entries.l1, hj]
    simp
  | s :: r, off, k, hp, ht, ho, hk => by
    simp only [List.length_cons] at hk hp
    obtain ⟨k, rfl⟩ : ∃ j, k = j + 1 := ⟨k - 1, by omega⟩
    rw [total_cons] at ht
    rw [styx_Entries.l1]
    by_cases h1 : off > 0
    · rw [if_pos h1, if_pos (by simp only [List.length_cons]; omega), if_pos (by simp only [List.length_cons]; omega), if_pos (by simp only [List.length_cons]; omega)]
      have e0 : rdOf ByteArray.empty (s :: r) 0 = s := rfl
      have e1 : wrap64 (off - s.size) = off - s.size := by unfold wrap64; omega
      have e2 : (s :: r).drop (1 : Int).toNat = r := rfl
      rw [e0, e1, e2, styx_l1 count r (off - s.size) k (by omega) (by omega) (by omega) (by omega)]
      unfold entR
      rw [show skipOff off (s :: r) = skipOff (off - s.size) r by rw [skipOff, if_pos h1]]
    · rw [if_neg h1]
      exact styx_j2 off count (s :: r) (by simp; omega) (by rw [total_cons]; omega) (by rw [skipOff, if_neg h1]) k (by simp; omega)

theorem firstErr_zero : ∀ (l : List S34), firstErr l = 0 → ∀ s ∈ l, chkD (toD s) = 0
  | [], _, s, hs => by cases hs
  | t :: r, h, s, hs => by
    by_cases hc : chkD (toD t) = 0
    · simp only [firstErr, hc, if_true] at h
      rcases List.mem_cons.1 hs with rfl | hs
      · exact hc
      · exact firstErr_zero r h s hs
    · simp only [firstErr, hc, if_false] at h
theorem total_encs (l : List S34) (hs : ∀ s ∈ l, shortD (toD s)) (hz : ∀ s ∈ l, chkD (toD s) = 0) : total (encs l) ≤ 1024 * l.length := by
  induction l with
  | nil => simp [encs, total]
  | cons s r ih =>
    have h1 := enc_str (toD s) (hs s (by simp)) (hz s (by simp))
    have h2 := ih (fun t ht => hs t (by simp [ht])) (fun t ht => hz t (by simp [ht]))
    rw [show total (encs (s :: r)) = (encF (toD s)).1.size + total (encs r) by simp only [encs, List.map_cons]; exact total_cons _ _]
    simp only [List.length_cons]
    omega
theorem styx_entries (l : List S34) (hl : Short l) (off count : Int) (ho : off < 9223372036854775808) : styx_Entries.f 200 l off count = some (entAll l off count) := by
  unfold styx_Entries.f entAll
  obtain ⟨k, hk⟩ : ∃ k, 200 = k + l.length + 1 := ⟨200 - l.length - 1, by have := hl.1; omega⟩
  rw [hk]
  refine (styx_l0 l hl off count l 0 [] k rfl rfl).trans ?_
  by_cases hf : firstErr l = 0
  · rw [if_pos hf, if_pos hf]
    have hz := firstErr_zero l hf
    have ht := total_encs l (fun s hs => (hl.2 s hs).1) hz
    have h20 := hl.1
    exact styx_l1 count (encs l) off k (by simp [encs]; omega) (by omega) ho (by simp [encs]; omega)
  · rw [if_neg hf, if_neg hf]
theorem few_short (l : List S34) (hw : ∀ s ∈ l, (toD s).Wf) (h : fewB l = true) : Short l := by
  simp only [fewB, Bool.and_eq_true, decide_eq_true_iff, Bool.not_eq_true', List.any_eq_false] at h
  refine ⟨h.1, fun s hs => ⟨?_, hw s hs⟩⟩
  have h1 := h.2 s hs
  simp only [bigD, decide_eq_true_iff, roomD] at h1
  unfold shortD
  exact Nat.le_of_not_lt (fun hh => h1 (decide_eq_true hh))
end Go.Proofs.YtflofpnagfoeeaaDoor
