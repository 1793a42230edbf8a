/- What the program and the reference encode: the same. No walk. -/
import Derived.Test.YtflofpnagfoeeaaDoorStFew
import Derived.Test.YtflofpnagfoeeaaDoorQ4
set_option linter.unusedSimpArgs false
set_option linter.unusedVariables false
namespace Go.Proofs.YtflofpnagfoeeaaDoor
open Go.RowKit Go.Proofs.YtflofpnagfoeeaaDoorW.PrintLast Go.Proofs.YtflofpnagfoeeaaDoorW.PrintWords Go.Proofs.YtflofpnagfoeeaaDoorW.PrintMore Go.Proofs.YtflofpnagfoeeaaDoor.Q

theorem ba_eq {s t : ByteArray} (h : s.data.toList = t.data.toList) : s = t := by
  cases s; cases t; simp at h; simp [h]
theorem strOfNums_append (xs ys : List Int) : strOfNums (xs ++ ys) = strOfNums xs ++ strOfNums ys := by
  apply ba_eq
  rw [strOfNums_data, ByteArray.data_append, Array.toList_append, strOfNums_data, strOfNums_data, List.map_append]
theorem byts_str (s : ByteArray) : strOfNums (byts s) = s := by
  apply ba_eq
  rw [strOfNums_data, byts, List.map_map]
  conv => rhs; rw [← List.map_id s.data.toList]
  exact List.map_congr_left (fun x _ => by simp)
theorem leb_shift (n : Int) : ∀ k : Nat, k ≤ 8 → leb (n % 18446744073709551616) k = leb n k
  | 0, _ => rfl
  | k + 1, h => by
    rw [leb, leb, leb_shift n k (by omega)]
    congr 2
    obtain rfl | rfl | rfl | rfl | rfl | rfl | rfl | rfl : k = 0 ∨ k = 1 ∨ k = 2 ∨ k = 3 ∨ k = 4 ∨ k = 5 ∨ k = 6 ∨ k = 7 := by omega
    all_goals
      simp only [Nat.mul_zero, Nat.mul_one, Nat.reduceMul, Int.reducePow, Int.pow_zero]
      omega
theorem number_l0 (m : Int) (size : Nat) (hs : size ≤ 8) : ∀ (n i k : Nat), i + n = size → acheronref31_number.l0 (k + n + 1) size (leb m i) (m / 2 ^ (8 * i)) i = some (strOfNums (leb m size))
  | 0, i, k, h => by
    have : i = size := by omega
    subst this
    simp [acheronref31_number.l0]
  | n + 1, i, k, h => by
    rw [show k + (n + 1) + 1 = (k + n + 1) + 1 by omega, acheronref31_number.l0]
    have h1 : (i : Int) < size := by omega
    have h2 : (leb m i).length < 140737488355328 := by simp; omega
    rw [if_pos h1, if_pos h2]
    have h3 : wrap64 ((i : Int) + 1) = ((i + 1 : Nat) : Int) := by unfold wrap64; omega
    have h4 : m / 2 ^ (8 * i) / 256 = m / 2 ^ (8 * (i + 1)) := by
      rw [show 8 * (i + 1) = 8 * i + 8 by omega, Int.pow_add, ← Int.ediv_ediv_of_nonneg (Int.pow_nonneg (by decide))]
      rfl
    rw [h3, h4]
    exact number_l0 m size hs n (i + 1) k (by omega)
theorem number_eq (n : Int) (size k : Nat) (hs : size ≤ 8) (hk : 9 ≤ k) : acheronref31_number.f k n size = some (strOfNums (leb n size)) := by
  obtain ⟨j, rfl⟩ : ∃ j, k = j + size + 1 := ⟨k - size - 1, by omega⟩
  have h := number_l0 (n % 18446744073709551616) size hs size 0 j (by omega)
  rw [leb_shift n size hs] at h
  unfold acheronref31_number.f
  rw [show IntKind.u64.wrap n = n % 18446744073709551616 by simp [IntKind.wrap, IntKind.bits, IntKind.signed]]
  simpa [leb] using h

theorem number1 (n : Int) (k : Nat) (hk : 9 ≤ k) : acheronref31_number.f k n 1 = some (strOfNums (leb n 1)) := number_eq n 1 k (by omega) hk
theorem number2 (n : Int) (k : Nat) (hk : 9 ≤ k) : acheronref31_number.f k n 2 = some (strOfNums (leb n 2)) := number_eq n 2 k (by omega) hk
theorem number4 (n : Int) (k : Nat) (hk : 9 ≤ k) : acheronref31_number.f k n 4 = some (strOfNums (leb n 4)) := number_eq n 4 k (by omega) hk
theorem number8 (n : Int) (k : Nat) (hk : 9 ≤ k) : acheronref31_number.f k n 8 = some (strOfNums (leb n 8)) := number_eq n 8 k (by omega) hk
theorem litBytes_ok (n : Int) (k : Nat) (h : 0 ≤ n ∧ n < 2 ^ (8 * k)) : litBytes n k = leb n k := by
  unfold litBytes fitsU; rw [if_pos (by simpa using h)]
theorem sizedBytes_ok (s : ByteArray) (h : s.size ≤ 8192) : sizedBytes s 2 = leb s.size 2 ++ byts s ∧ sizedOk s 2 = true := by
  have h1 : sizedOk s 2 = true := by
    have h2 : (s.size : Int) < 2 ^ (8 * 2) := by rw [show (2 : Int) ^ (8 * 2) = 65536 by decide]; omega
    have h3 : (0 : Int) ≤ s.size := by omega
    simp [sizedOk, fitsU, h]
    omega
  refine ⟨?_, h1⟩
  unfold sizedBytes
  rw [if_pos h1, litBytes_ok _ _ ⟨by omega, by rw [show (2 : Int) ^ (8 * 2) = 65536 by decide]; omega⟩]
theorem word_eq (s : ByteArray) (k : Nat) (hk : 9 ≤ k) (h : s.size ≤ 8192) : acheronref31_word.f k s = some (strOfNums (sizedBytes s 2)) := by
  unfold acheronref31_word.f
  rw [number2 _ k hk]
  simp only [Option.bind_some, strOfNums_size, leb_length]
  rw [if_pos (by omega), (sizedBytes_ok s h).1, strOfNums_append, byts_str]
theorem mode_leb (m : Int) : leb m 4 = leb (modeVal m) 4 := by
  unfold modeVal
  split
  · rename_i h; subst h; decide
  · rfl
theorem outErr_if (a b : Bool) : outErr a b = if a = true then 11 else if b = true then 3 else 0 := rfl
/-- Dirs whose strings are not long. -/
def shortD (d : DirV) : Prop := d.name.size + d.owner.size + d.group.size + d.last.size ≤ 3000
theorem textsBytes_short (d : DirV) (h : shortD d) : textsBytes d.strs = sizedBytes d.name 2 ++ (sizedBytes d.owner 2 ++ (sizedBytes d.group 2 ++ sizedBytes d.last 2)) ∧ textsOver d.strs = false := by
  unfold shortD at h
  constructor
  · simp [textsBytes, DirV.strs]
  · simp [textsOver, DirV.strs, (sizedBytes_ok d.name (by omega)).2, (sizedBytes_ok d.owner (by omega)).2, (sizedBytes_ok d.group (by omega)).2, (sizedBytes_ok d.last (by omega)).2]
theorem sized_len (s : ByteArray) (h : s.size ≤ 8192) : (sizedBytes s 2).length = 2 + s.size := by
  rw [(sizedBytes_ok s h).1]; simp
def sumD (d : DirV) : Nat := d.name.size + d.owner.size + d.group.size + d.last.size
theorem qid_good (d : DirV) (h : qidBad d.kind d.vers d.path = false) : qidBytes d.kind d.vers d.path = leb d.kind 1 ++ leb d.vers 4 ++ leb d.path 8 := by
  simp only [qidBad, Bool.or_eq_false_iff, Bool.not_eq_false'] at h
  unfold qidBytes litBytes
  rw [if_pos h.1.1, if_pos h.1.2]
theorem body_good (d : DirV) (hs : shortD d) (h : bodyBad d = false) : bodyBytes d = leb d.kind 1 ++ leb d.vers 4 ++ leb d.path 8 ++ leb d.mode 4 ++ leb d.time 8 ++ leb d.length 8 ++ textsBytes d.strs ∧ (bodyBytes d).length = 41 + sumD d := by
  simp only [bodyBad, Bool.or_eq_false_iff] at h
  have hm : litBytes (modeVal d.mode) 4 = leb d.mode 4 := by
    rw [mode_leb]
    refine litBytes_ok _ _ ?_
    have h1 := h.1.1.2
    simp only [modeBad, decide_eq_false_iff_not] at h1
    rw [show (2 : Int) ^ (8 * 4) = 4294967296 by decide]
    unfold modeVal
    split <;> omega
  have e : bodyBytes d = leb d.kind 1 ++ leb d.vers 4 ++ leb d.path 8 ++ leb d.mode 4 ++ leb d.time 8 ++ leb d.length 8 ++ textsBytes d.strs := by
    unfold bodyBytes
    rw [qid_good d h.1.1.1, hm]
  refine ⟨e, ?_⟩
  rw [e, (textsBytes_short d hs).1]
  unfold shortD at hs
  simp only [List.length_append, leb_length, sized_len d.name (by omega), sized_len d.owner (by omega), sized_len d.group (by omega), sized_len d.last (by omega), sumD]
  omega
/-- What is wrong with a short Dir. -/
def chkD (d : DirV) : Int := if bodyBad d = true then 11 else if 1024 < 43 + sumD d then 3 else 0
theorem enc_err (d : DirV) (hs : shortD d) : encErr d = chkD d := by
  unfold encErr chkD
  rw [outErr_if]
  cases hb : bodyBad d with
  | true => simp
  | false =>
    have hl := (body_good d hs hb).2
    have ht := (textsBytes_short d hs).2
    simp only [dirOver, bodyOver, ht, Bool.false_or, hl]
    by_cases h : 1024 < 43 + sumD d
    · rw [if_pos h]
      simp [show 1024 < 41 + sumD d + 2 by omega]
    · rw [if_neg h]
      have h2 : sizedOk (strOfNums (bodyBytes d)) 2 = true := (sizedBytes_ok _ (by rw [strOfNums_size, hl]; omega)).2
      simp [h2, show ¬ 1024 < 41 + sumD d + 2 by omega]
theorem encF_err (d : DirV) (hs : shortD d) : (encF d).2 = chkD d := by
  unfold encF
  rw [enc_err d hs]
  split
  · rename_i h; exact h.symm
  · rfl

theorem ref_qid (d : DirV) (k : Nat) (hk : 9 ≤ k) : acheronref31_qid.f k d.kind d.vers d.path = some (strOfNums (leb d.kind 1 ++ leb d.vers 4 ++ leb d.path 8)) := by
  unfold acheronref31_qid.f
  simp only [number1 _ k hk, number4 _ k hk, number8 _ k hk, Option.bind_some]
  rw [if_pos (by simp only [strOfNums_size, leb_length]; omega), if_pos (by rw [← strOfNums_append]; simp only [strOfNums_size, List.length_append, leb_length]; omega), ← strOfNums_append, ← strOfNums_append]
def bodyR (d : DirV) : List Int := leb d.kind 1 ++ leb d.vers 4 ++ leb d.path 8 ++ leb d.mode 4 ++ leb d.time 8 ++ leb d.length 8 ++ textsBytes d.strs
theorem joins (X1 X2 X3 X4 W1 W2 W3 W4 : List Int) (k : Nat) (hk : 9 ≤ k) (hl : X1.length + X2.length + X3.length + X4.length + W1.length + W2.length + W3.length + W4.length ≤ 5000) :
    ((some (strOfNums X1)).bind fun t135 => ((some (strOfNums X2)).bind fun t136 => (if t135.size + t136.size ≤ 9223372036854775807 then ((some (strOfNums X3)).bind fun t137 => (if (t135 ++ t136).size + t137.size ≤ 9223372036854775807 then ((some (strOfNums X4)).bind fun t138 => (if ((t135 ++ t136) ++ t137).size + t138.size ≤ 9223372036854775807 then ((some (strOfNums W1)).bind fun t139 => (if (((t135 ++ t136) ++ t137) ++ t138).size + t139.size ≤ 9223372036854775807 then ((some (strOfNums W2)).bind fun t140 => (if ((((t135 ++ t136) ++ t137) ++ t138) ++ t139).size + t140.size ≤ 9223372036854775807 then ((some (strOfNums W3)).bind fun t141 => (if (((((t135 ++ t136) ++ t137) ++ t138) ++ t139) ++ t140).size + t141.size ≤ 9223372036854775807 then ((some (strOfNums W4)).bind fun t142 => (if ((((((t135 ++ t136) ++ t137) ++ t138) ++ t139) ++ t140) ++ t141).size + t142.size ≤ 9223372036854775807 then ((acheronref31_number.f k ((((((((t135 ++ t136) ++ t137) ++ t138) ++ t139) ++ t140) ++ t141) ++ t142).size : Int) 2).bind fun t143 => (if t143.size + (((((((t135 ++ t136) ++ t137) ++ t138) ++ t139) ++ t140) ++ t141) ++ t142).size ≤ 9223372036854775807 then (some (t143 ++ (((((((t135 ++ t136) ++ t137) ++ t138) ++ t139) ++ t140) ++ t141) ++ t142))) else (none))) else (none))) else (none))) else (none))) else (none))) else (none))) else (none))) else (none))))
      = some (strOfNums (leb (X1 ++ X2 ++ X3 ++ X4 ++ W1 ++ W2 ++ W3 ++ W4).length 2 ++ (X1 ++ X2 ++ X3 ++ X4 ++ W1 ++ W2 ++ W3 ++ W4))) := by
  have sz := strOfNums_size
  simp only [Option.bind_some, ← strOfNums_append, sz]
  have q : ∀ {a b : Nat}, a + b ≤ 5000 → a + b ≤ 9223372036854775807 := fun h => by omega
  rw [if_pos (by omega)]
  rw [if_pos (by simp only [List.length_append]; omega)]
  rw [if_pos (by simp only [List.length_append]; omega)]
  rw [if_pos (by simp only [List.length_append]; omega)]
  rw [if_pos (by simp only [List.length_append]; omega)]
  rw [if_pos (by simp only [List.length_append]; omega)]
  rw [if_pos (by simp only [List.length_append]; omega)]
  rw [number2 _ k hk]
  simp only [Option.bind_some, ← strOfNums_append, sz]
  rw [if_pos (by simp only [List.length_append, leb_length]; omega)]
theorem ref_dir (d : DirV) (k : Nat) (hk : 9 ≤ k) (hs : shortD d) :
    acheronref31_dir.f k d.kind d.vers d.path d.mode d.time d.length d.name d.owner d.group d.last = some (strOfNums (leb (bodyR d).length 2 ++ bodyR d)) := by
  have hs' := hs
  unfold shortD at hs'
  have l1 := sized_len d.name (by omega)
  have l2 := sized_len d.owner (by omega)
  have l3 := sized_len d.group (by omega)
  have l4 := sized_len d.last (by omega)
  have et : bodyR d = (leb d.kind 1 ++ leb d.vers 4 ++ leb d.path 8) ++ leb d.mode 4 ++ leb d.time 8 ++ leb d.length 8 ++ sizedBytes d.name 2 ++ sizedBytes d.owner 2 ++ sizedBytes d.group 2 ++ sizedBytes d.last 2 := by
    unfold bodyR
    rw [(textsBytes_short d hs).1]
    simp only [List.append_assoc]
  have hj := joins (leb d.kind 1 ++ leb d.vers 4 ++ leb d.path 8) (leb d.mode 4) (leb d.time 8) (leb d.length 8) (sizedBytes d.name 2) (sizedBytes d.owner 2) (sizedBytes d.group 2) (sizedBytes d.last 2) k hk (by simp only [List.length_append, leb_length, l1, l2, l3, l4]; omega)
  rw [← et] at hj
  rw [← hj]
  unfold acheronref31_dir.f
  rw [ref_qid d k hk, word_eq d.name k hk (by omega), word_eq d.owner k hk (by omega), word_eq d.group k hk (by omega), word_eq d.last k hk (by omega), number4 _ k hk, number8 _ k hk, number8 _ k hk]
theorem enc_str (d : DirV) (hs : shortD d) (h : chkD d = 0) : (encF d).1 = strOfNums (leb (bodyR d).length 2 ++ bodyR d) ∧ (encF d).1.size = 43 + sumD d ∧ 43 + sumD d ≤ 1024 := by
  have hb : bodyBad d = false := by
    cases hb : bodyBad d with
    | false => rfl
    | true => unfold chkD at h; rw [hb] at h; simp at h
  have hk : 43 + sumD d ≤ 1024 := by
    unfold chkD at h
    rw [hb] at h
    simp at h
    omega
  have hg := body_good d hs hb
  have he : (encF d).1 = encStr d := by unfold encF; rw [enc_err d hs, if_pos h]
  have e2 : encStr d = strOfNums (leb (bodyR d).length 2 ++ bodyR d) := by
    unfold encStr
    rw [(sizedBytes_ok _ (by rw [strOfNums_size, hg.2]; omega)).1, strOfNums_size, strOfNums_append, byts_str, ← strOfNums_append]
    unfold bodyR
    rw [hg.1]
  refine ⟨he.trans e2, ?_, hk⟩
  rw [he, e2, strOfNums_size, List.length_append, leb_length]
  have : (bodyR d).length = 41 + sumD d := by unfold bodyR; rw [← hg.1]; exact hg.2
  omega
theorem in_eq1 (n : Int) : acheronref31_in.f n 1 = some (fitsU n 1) := by
  unfold acheronref31_in.f fitsU
  rw [show wrap64 (8 * 1) = 8 by kernel_rfl, show shl .i64 1 8 = 256 by kernel_rfl, if_pos (show (0 : Int) ≤ 8 by decide)]
  split
  · simp only [Option.some.injEq, decide_eq_decide, show (2 : Int) ^ (8 * 1) = 256 by decide]; omega
  · simp only [Option.some.injEq, show (2 : Int) ^ (8 * 1) = 256 by decide]; rw [eq_comm, decide_eq_false_iff_not]; omega
theorem in_eq4 (n : Int) : acheronref31_in.f n 4 = some (fitsU n 4) := by
  unfold acheronref31_in.f fitsU
  rw [show wrap64 (8 * 4) = 32 by kernel_rfl, show shl .i64 1 32 = 4294967296 by kernel_rfl, if_pos (show (0 : Int) ≤ 32 by decide)]
  split
  · simp only [Option.some.injEq, decide_eq_decide, show (2 : Int) ^ (8 * 4) = 4294967296 by decide]; omega
  · simp only [Option.some.injEq, show (2 : Int) ^ (8 * 4) = 4294967296 by decide]; rw [eq_comm, decide_eq_false_iff_not]; omega
theorem ref_check (d : DirV) (hs : shortD d) :
    acheronref31_CheckDir.f d.kind d.vers d.path d.mode d.time d.length d.name d.owner d.group d.last = some (chkD d) := by
  unfold shortD at hs
  have h1 : acheronref31_in.f d.kind 1 = some (fitsU d.kind 1) := in_eq1 d.kind
  have h2 : acheronref31_in.f d.vers 4 = some (fitsU d.vers 4) := in_eq4 d.vers
  unfold acheronref31_CheckDir.f acheronref31_rightDir.f acheronref31_rightQid.f acheronref31_dirBytes.f chkD bodyBad qidBad modeBad sumD
  rw [h1, h2]
  have e : wrap64 (wrap64 (wrap64 (wrap64 (43 + (d.name.size : Int)) + d.owner.size) + d.group.size) + d.last.size) = 43 + (d.name.size : Int) + d.owner.size + d.group.size + d.last.size := by unfold wrap64; omega
  rw [e]
  cases fitsU d.kind 1
  · simp
  cases fitsU d.vers 4
  · simp
  simp only [Option.bind_some, if_true, Bool.not_true, Bool.false_or]
  by_cases a1 : 0 ≤ d.path
  · by_cases a2 : -1 ≤ d.mode
    · by_cases a3 : d.mode < 4294967295
      · by_cases a4 : -1 ≤ d.time
        · by_cases a5 : -1 ≤ d.length
          · simp [a1, a2, a3, a4, a5, show ¬ d.path < 0 by omega, show ¬ d.mode < -1 by omega, show ¬ 4294967295 ≤ d.mode by omega, show ¬ d.time < -1 by omega, show ¬ d.length < -1 by omega]
            by_cases a6 : 1024 < 43 + (d.name.size + d.owner.size + d.group.size + d.last.size)
            · rw [if_pos a6, if_pos (by omega)]
            · rw [if_neg a6, if_neg (by omega)]
          · simp [a1, a2, a3, a4, a5, show d.length < -1 by omega]
        · simp [a1, a2, a3, a4, show d.time < -1 by omega]
      · simp [a1, a2, a3, show 4294967295 ≤ d.mode by omega]
    · simp [a1, a2, show d.mode < -1 by omega]
  · simp [a1, show d.path < 0 by omega]
end Go.Proofs.YtflofpnagfoeeaaDoor
