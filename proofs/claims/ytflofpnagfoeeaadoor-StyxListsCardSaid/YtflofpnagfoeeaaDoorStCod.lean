/- What the program encodes. No walk. -/
import Derived.Test.YtflofpnagfoeeaaDoorStEnc
import Derived.Test.YtflofpnagfoeeaaDoorWLast
import Derived.Test.YtflofpnagfoeeaaDoorWWords
import Derived.Test.YtflofpnagfoeeaaDoorWMore
set_option linter.unusedSimpArgs false
set_option linter.unusedVariables false
namespace Go.Proofs.YtflofpnagfoeeaaDoor
open Go.RowKit Go.Proofs.YtflofpnagfoeeaaDoorW.PrintLast Go.Proofs.YtflofpnagfoeeaaDoorW.PrintWords Go.Proofs.YtflofpnagfoeeaaDoorW.PrintMore

theorem ba_eq {s t : ByteArray} (h : s.data.toList = t.data.toList) : s = t := by
  cases s; cases t; simp at h; simp [h]
theorem strOfNums_append (xs ys : List Int) : strOfNums (xs ++ ys) = strOfNums xs ++ strOfNums ys := by
  apply ba_eq
  rw [strOfNums_data, ByteArray.data_append, Array.toList_append, strOfNums_data, strOfNums_data, List.map_append]
theorem byts_str (s : ByteArray) : strOfNums (byts s) = s := by
  apply ba_eq
  rw [strOfNums_data, byts, List.map_map]
  conv => rhs; rw [← List.map_id s.data.toList]
  exact List.map_congr_left (fun x _ => by simp)
theorem leb_shift (n : Int) : ∀ k : Nat, k ≤ 8 → leb (n % 18446744073709551616) k = leb n k
  | 0, _ => rfl
  | k + 1, h => by
    rw [leb, leb, leb_shift n k (by omega)]
    congr 2
    obtain rfl | rfl | rfl | rfl | rfl | rfl | rfl | rfl : k = 0 ∨ k = 1 ∨ k = 2 ∨ k = 3 ∨ k = 4 ∨ k = 5 ∨ k = 6 ∨ k = 7 := by omega
    all_goals
      simp only [Nat.mul_zero, Nat.mul_one, Nat.reduceMul, Int.reducePow, Int.pow_zero]
      omega
theorem litBytes_ok (n : Int) (k : Nat) (h : 0 ≤ n ∧ n < 2 ^ (8 * k)) : litBytes n k = leb n k := by
  unfold litBytes fitsU; rw [if_pos (by simpa using h)]
theorem sizedBytes_ok (s : ByteArray) (h : s.size ≤ 8192) : sizedBytes s 2 = leb s.size 2 ++ byts s ∧ sizedOk s 2 = true := by
  have h1 : sizedOk s 2 = true := by
    have h2 : (s.size : Int) < 2 ^ (8 * 2) := by rw [show (2 : Int) ^ (8 * 2) = 65536 by decide]; omega
    have h3 : (0 : Int) ≤ s.size := by omega
    simp [sizedOk, fitsU, h]
    omega
  refine ⟨?_, h1⟩
  unfold sizedBytes
  rw [if_pos h1, litBytes_ok _ _ ⟨by omega, by rw [show (2 : Int) ^ (8 * 2) = 65536 by decide]; omega⟩]
theorem mode_leb (m : Int) : leb m 4 = leb (modeVal m) 4 := by
  unfold modeVal
  split
  · rename_i h; subst h; decide
  · rfl
theorem outErr_if (a b : Bool) : outErr a b = if a = true then 11 else if b = true then 3 else 0 := rfl
/-- Dirs whose strings are not long. -/
def shortD (d : DirV) : Prop := d.name.size + d.owner.size + d.group.size + d.last.size ≤ 3000
theorem textsBytes_short (d : DirV) (h : shortD d) : textsBytes d.strs = sizedBytes d.name 2 ++ (sizedBytes d.owner 2 ++ (sizedBytes d.group 2 ++ sizedBytes d.last 2)) ∧ textsOver d.strs = false := by
  unfold shortD at h
  constructor
  · simp [textsBytes, DirV.strs]
  · simp [textsOver, DirV.strs, (sizedBytes_ok d.name (by omega)).2, (sizedBytes_ok d.owner (by omega)).2, (sizedBytes_ok d.group (by omega)).2, (sizedBytes_ok d.last (by omega)).2]
theorem sized_len (s : ByteArray) (h : s.size ≤ 8192) : (sizedBytes s 2).length = 2 + s.size := by
  rw [(sizedBytes_ok s h).1]; simp
def sumD (d : DirV) : Nat := d.name.size + d.owner.size + d.group.size + d.last.size
theorem qid_good (d : DirV) (h : qidBad d.kind d.vers d.path = false) : qidBytes d.kind d.vers d.path = leb d.kind 1 ++ leb d.vers 4 ++ leb d.path 8 := by
  simp only [qidBad, Bool.or_eq_false_iff, Bool.not_eq_false'] at h
  unfold qidBytes litBytes
  rw [if_pos h.1.1, if_pos h.1.2]
theorem body_good (d : DirV) (hs : shortD d) (h : bodyBad d = false) : bodyBytes d = leb d.kind 1 ++ leb d.vers 4 ++ leb d.path 8 ++ leb d.mode 4 ++ leb d.time 8 ++ leb d.length 8 ++ textsBytes d.strs ∧ (bodyBytes d).length = 41 + sumD d := by
  simp only [bodyBad, Bool.or_eq_false_iff] at h
  have hm : litBytes (modeVal d.mode) 4 = leb d.mode 4 := by
    rw [mode_leb]
    refine litBytes_ok _ _ ?_
    have h1 := h.1.1.2
    simp only [modeBad, decide_eq_false_iff_not] at h1
    rw [show (2 : Int) ^ (8 * 4) = 4294967296 by decide]
    unfold modeVal
    split <;> omega
  have e : bodyBytes d = leb d.kind 1 ++ leb d.vers 4 ++ leb d.path 8 ++ leb d.mode 4 ++ leb d.time 8 ++ leb d.length 8 ++ textsBytes d.strs := by
    unfold bodyBytes
    rw [qid_good d h.1.1.1, hm]
  refine ⟨e, ?_⟩
  rw [e, (textsBytes_short d hs).1]
  unfold shortD at hs
  simp only [List.length_append, leb_length, sized_len d.name (by omega), sized_len d.owner (by omega), sized_len d.group (by omega), sized_len d.last (by omega), sumD]
  omega
/-- What is wrong with a short Dir. -/
def chkD (d : DirV) : Int := if bodyBad d = true then 11 else if 1024 < 43 + sumD d then 3 else 0
theorem enc_err (d : DirV) (hs : shortD d) : encErr d = chkD d := by
  unfold encErr chkD
  rw [outErr_if]
  cases hb : bodyBad d with
  | true => simp
  | false =>
    have hl := (body_good d hs hb).2
    have ht := (textsBytes_short d hs).2
    simp only [dirOver, bodyOver, ht, Bool.false_or, hl]
    by_cases h : 1024 < 43 + sumD d
    · rw [if_pos h]
      simp [show 1024 < 41 + sumD d + 2 by omega]
    · rw [if_neg h]
      have h2 : sizedOk (strOfNums (bodyBytes d)) 2 = true := (sizedBytes_ok _ (by rw [strOfNums_size, hl]; omega)).2
      simp [h2, show ¬ 1024 < 41 + sumD d + 2 by omega]
theorem encF_err (d : DirV) (hs : shortD d) : (encF d).2 = chkD d := by
  unfold encF
  rw [enc_err d hs]
  split
  · rename_i h; exact h.symm
  · rfl

def bodyR (d : DirV) : List Int := leb d.kind 1 ++ leb d.vers 4 ++ leb d.path 8 ++ leb d.mode 4 ++ leb d.time 8 ++ leb d.length 8 ++ textsBytes d.strs
theorem enc_str (d : DirV) (hs : shortD d) (h : chkD d = 0) : (encF d).1 = strOfNums (leb (bodyR d).length 2 ++ bodyR d) ∧ (encF d).1.size = 43 + sumD d ∧ 43 + sumD d ≤ 1024 := by
  have hb : bodyBad d = false := by
    cases hb : bodyBad d with
    | false => rfl
    | true => unfold chkD at h; rw [hb] at h; simp at h
  have hk : 43 + sumD d ≤ 1024 := by
    unfold chkD at h
    rw [hb] at h
    simp at h
    omega
  have hg := body_good d hs hb
  have he : (encF d).1 = encStr d := by unfold encF; rw [enc_err d hs, if_pos h]
  have e2 : encStr d = strOfNums (leb (bodyR d).length 2 ++ bodyR d) := by
    unfold encStr
    rw [(sizedBytes_ok _ (by rw [strOfNums_size, hg.2]; omega)).1, strOfNums_size, strOfNums_append, byts_str, ← strOfNums_append]
    unfold bodyR
    rw [hg.1]
  refine ⟨he.trans e2, ?_, hk⟩
  rw [he, e2, strOfNums_size, List.length_append, leb_length]
  have : (bodyR d).length = 41 + sumD d := by unfold bodyR; rw [← hg.1]; exact hg.2
  omega
end Go.Proofs.YtflofpnagfoeeaaDoor
