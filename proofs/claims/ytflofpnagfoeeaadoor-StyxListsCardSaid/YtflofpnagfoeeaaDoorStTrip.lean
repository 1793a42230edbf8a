/- What DecodeDir reads of what EncodeDir wrote, whatever follows: the Dir. No walk. -/
import Derived.Test.YtflofpnagfoeeaaDoorStCod
import Derived.Test.YtflofpnagfoeeaaDoorStDcd
set_option linter.unusedSimpArgs false
set_option linter.unusedVariables false
namespace Go.Proofs.YtflofpnagfoeeaaDoor
open Go.RowKit Go.Proofs.YtflofpnagfoeeaaDoorW.PrintLast Go.Proofs.YtflofpnagfoeeaaDoorW.PrintWords

/-- What lies in a string from a place on. -/
def Rest (t : ByteArray) (i : Nat) (xs : List Int) : Prop := (byts t).drop i = xs
theorem Rest.len {t : ByteArray} {i : Nat} {xs ys : List Int} (h : Rest t i (xs ++ ys)) (hx : 0 < xs.length) : i + xs.length ≤ t.size := by
  have h1 := congrArg List.length h
  simp only [List.length_drop, byts_length, List.length_append] at h1
  omega
theorem Rest.next {t : ByteArray} {i : Nat} {xs ys : List Int} (h : Rest t i (xs ++ ys)) : Rest t (i + xs.length) ys := by
  unfold Rest at h ⊢
  rw [← List.drop_drop, h, List.drop_left]
theorem Rest.get {t : ByteArray} {i : Nat} {xs : List Int} (h : Rest t i xs) (j : Nat) (v : Int) (hv : xs[j]? = some v) : ((t.data.getD (i + j) 0).toNat : Int) = v := by
  unfold Rest at h
  have h1 : (byts t)[i + j]? = some v := by rw [← List.getElem?_drop, h]; exact hv
  unfold byts at h1
  rw [List.getElem?_map] at h1
  obtain ⟨b, hb, rfl⟩ := Option.map_eq_some_iff.1 h1
  rw [Array.getElem?_toList] at hb
  rw [Array.getD_eq_getD_getElem?, hb]
  rfl
theorem leb_get (n : Int) : ∀ (k j : Nat), j < k → (leb n k)[j]? = some (n / 2 ^ (8 * j) % 256)
  | 0, j, h => by omega
  | k + 1, j, h => by
    rw [leb]
    by_cases hj : j < k
    · rw [List.getElem?_append_left (by simpa using hj)]
      exact leb_get n k j hj
    · obtain rfl : j = k := by omega
      rw [List.getElem?_append_right (by simp)]
      simp
theorem mod_step (n : Int) (k : Nat) (hk : k < 8) : n % 2 ^ (8 * k) + n / 2 ^ (8 * k) % 256 * 2 ^ (8 * k) = n % 2 ^ (8 * (k + 1)) := by
  obtain rfl | rfl | rfl | rfl | rfl | rfl | rfl | rfl : k = 0 ∨ k = 1 ∨ k = 2 ∨ k = 3 ∨ k = 4 ∨ k = 5 ∨ k = 6 ∨ k = 7 := by omega
  all_goals
    simp only [Nat.mul_zero, Nat.mul_one, Nat.reduceMul, Nat.reduceAdd, Int.reducePow, Int.pow_zero]
    omega
theorem Rest.num {t : ByteArray} {i : Nat} {n : Int} {k : Nat} {ys : List Int} (h : Rest t i (leb n k ++ ys)) (hk : k ≤ 8) : leN t i k = n % 2 ^ (8 * k) := by
  have h1 : ∀ j, j ≤ k → leN t i j = n % 2 ^ (8 * j) := by
    intro j
    induction j with
    | zero => intro _; simp [leN]
    | succ j ih =>
      intro hj
      rw [leN, ih (by omega), h.get j (n / 2 ^ (8 * j) % 256) (by rw [List.getElem?_append_left (by simp; omega)]; exact leb_get n k j (by omega))]
      exact mod_step n j (by omega)
  exact h1 k (Nat.le_refl _)
theorem Rest.str {t s : ByteArray} {i : Nat} {ys : List Int} (h : Rest t i (byts s ++ ys)) : t.extract i (i + s.size) = s := by
  apply ba_eq
  have h1 : byts (t.extract i (i + s.size)) = byts s := by
    have e : byts (t.extract i (i + s.size)) = ((byts t).drop i).take s.size := by
      unfold byts
      rw [ByteArray.data_extract, Array.toList_extract]
      simp only [List.extract_eq_take_drop, List.map_take, List.map_drop]
      congr 1
      omega
    rw [e, h, List.take_append_of_le_length (by simp), List.take_of_length_le (by simp)]
  have h2 := congrArg (List.map fun x : Int => UInt8.ofNat x.toNat) h1
  simpa [byts, List.map_map, Function.comp_def] using h2
/-- Reading, where all is there. -/
theorem num_ok (t : ByteArray) (i k : Nat) (b o : Bool) (h : i + k ≤ t.size) : RS.num ⟨t, i, 0, b, o, false⟩ k = ⟨t, i + k, 0, b, o, false⟩ ∧ RS.numV ⟨t, i, 0, b, o, false⟩ k = leN t i k := by
  simp [RS.num, RS.lit, RS.numV, litI, litE, litV, h]
theorem least_ok (t : ByteArray) (i : Nat) (l : Int) (o : Bool) (h : i + 8 ≤ t.size) (hl : l ≤ signed64 (leN t i 8)) : RS.least ⟨t, i, 0, false, o, false⟩ l = ⟨t, i + 8, 0, false, o, false⟩ ∧ RS.leastV ⟨t, i, 0, false, o, false⟩ = signed64 (leN t i 8) := by
  have h2 : ¬ signed64 (leN t i 8) < l := by omega
  simp [RS.least, RS.lit, RS.leastV, litI, litE, sgnV, h, h2]
theorem sized_ok (t : ByteArray) (i m : Nat) (b o : Bool) (hm : leN t i 2 = m) (h : i + 2 + m ≤ t.size) : RS.sized ⟨t, i, 0, b, o, false⟩ = ⟨t, i + 2 + m, 0, b, o, false⟩ ∧ RS.sizedV ⟨t, i, 0, b, o, false⟩ = t.extract (i + 2) (i + 2 + m) := by
  have h1 := num_ok t i 2 b o (by omega)
  unfold RS.sized RS.sizedV
  rw [h1.1, h1.2, hm, Int.toNat_natCast]
  simp [RS.rawE, RS.lit, rawV, litI, litE, h]
theorem sized_rest {t s : ByteArray} {i : Nat} {ys : List Int} (b o : Bool) (h : Rest t i (leb s.size 2 ++ (byts s ++ ys))) (hs : s.size < 65536) :
    RS.sized ⟨t, i, 0, b, o, false⟩ = ⟨t, i + 2 + s.size, 0, b, o, false⟩ ∧ RS.sizedV ⟨t, i, 0, b, o, false⟩ = s ∧ Rest t (i + 2 + s.size) ys := by
  have h1 := h.num (by omega)
  have h2 := h.next
  rw [leb_length] at h2
  have h3 := h2.next
  rw [byts_length] at h3
  have hm : leN t i 2 = (s.size : Nat) := by
    rw [h1, show (2 : Int) ^ (8 * 2) = 65536 by decide]
    omega
  have hl := h.len (by simp)
  rw [leb_length] at hl
  have hl2 : i + 2 + s.size ≤ t.size := by
    by_cases hz : 0 < s.size
    · have := h2.len (by simpa using hz)
      simpa using this
    · omega
  have h4 := sized_ok t i s.size b o hm hl2
  rw [h2.str] at h4
  exact ⟨h4.1, h4.2, h3⟩
theorem num_rest {t : ByteArray} {i : Nat} {n : Int} {k : Nat} {ys : List Int} (b o : Bool) (h : Rest t i (leb n k ++ ys)) (hk : 0 < k ∧ k ≤ 8) :
    RS.num ⟨t, i, 0, b, o, false⟩ k = ⟨t, i + k, 0, b, o, false⟩ ∧ RS.numV ⟨t, i, 0, b, o, false⟩ k = n % 2 ^ (8 * k) ∧ Rest t (i + k) ys := by
  have hl := h.len (by simp; omega)
  rw [leb_length] at hl
  have h1 := num_ok t i k b o hl
  rw [h.num hk.2] at h1
  have h2 := h.next
  rw [leb_length] at h2
  exact ⟨h1.1, h1.2, h2⟩
theorem least_rest {t : ByteArray} {i : Nat} {n l : Int} {ys : List Int} (o : Bool) (h : Rest t i (leb n 8 ++ ys)) (hn : -9223372036854775808 ≤ n ∧ n < 9223372036854775808) (hl : l ≤ n) :
    RS.least ⟨t, i, 0, false, o, false⟩ l = ⟨t, i + 8, 0, false, o, false⟩ ∧ RS.leastV ⟨t, i, 0, false, o, false⟩ = n ∧ Rest t (i + 8) ys := by
  have hz := h.len (by simp)
  rw [leb_length] at hz
  have e : signed64 (leN t i 8) = n := by
    rw [h.num (by omega)]
    unfold signed64 wrap64
    rw [show (2 : Int) ^ (8 * 8) = 18446744073709551616 by decide]
    omega
  have h1 := least_ok t i l o hz (by rw [e]; exact hl)
  rw [e] at h1
  have h2 := h.next
  rw [leb_length] at h2
  exact ⟨h1.1, h1.2, h2⟩
theorem body_rest (d : DirV) (t : ByteArray) (hs : shortD d) (hw : d.Wf) (hb : bodyBad d = false) (h : Rest t 0 (bodyR d)) :
    RS.body ⟨t, 0, 0, false, false, false⟩ = ⟨t, t.size, 0, false, false, false⟩ ∧ RS.bodyV ⟨t, 0, 0, false, false, false⟩ = d := by
  have hs' := hs
  unfold shortD at hs'
  have hq := hb
  simp only [bodyBad, Bool.or_eq_false_iff, qidBad, Bool.not_eq_false', modeBad, decide_eq_false_iff_not] at hq
  obtain ⟨⟨⟨⟨⟨q1, q2⟩, q3⟩, q4⟩, q5⟩, q6⟩ := hq
  simp only [fitsU, decide_eq_true_iff, show (2 : Int) ^ (8 * 1) = 256 by decide] at q1
  simp only [fitsU, decide_eq_true_iff, show (2 : Int) ^ (8 * 4) = 4294967296 by decide] at q2
  have et : bodyR d = leb d.kind 1 ++ (leb d.vers 4 ++ (leb d.path 8 ++ (leb d.mode 4 ++ (leb d.time 8 ++ (leb d.length 8 ++ (leb d.name.size 2 ++ (byts d.name ++ (leb d.owner.size 2 ++ (byts d.owner ++ (leb d.group.size 2 ++ (byts d.group ++ (leb d.last.size 2 ++ (byts d.last ++ []))))))))))))) := by
    unfold bodyR
    rw [(textsBytes_short d hs).1, (sizedBytes_ok d.name (by omega)).1, (sizedBytes_ok d.owner (by omega)).1, (sizedBytes_ok d.group (by omega)).1, (sizedBytes_ok d.last (by omega)).1]
    simp only [List.append_assoc, List.append_nil]
  have hlen : t.size = 41 + sumD d := by
    have h1 := congrArg List.length h
    rw [List.length_drop, byts_length, show bodyR d = bodyBytes d from (body_good d hs hb).1.symm, (body_good d hs hb).2] at h1
    omega
  rw [et] at h
  obtain ⟨a1, v1, h⟩ := num_rest false false h (by omega)
  obtain ⟨a2, v2, h⟩ := num_rest false false h (by omega)
  obtain ⟨a3, v3, h⟩ := least_rest (l := 0) false h ⟨hw.p0, hw.p1⟩ (by omega)
  obtain ⟨a4, v4, h⟩ := num_rest false false h (by omega)
  obtain ⟨a5, v5, h⟩ := least_rest (l := -1) false h ⟨hw.t0, hw.t1⟩ (by omega)
  obtain ⟨a6, v6, h⟩ := least_rest (l := -1) false h ⟨hw.l0, hw.l1⟩ (by omega)
  obtain ⟨a7, v7, h⟩ := sized_rest false false h (by omega)
  obtain ⟨a8, v8, h⟩ := sized_rest false false h (by omega)
  obtain ⟨a9, v9, h⟩ := sized_rest false false h (by omega)
  obtain ⟨a10, v10, h⟩ := sized_rest false false h (by omega)
  have hend : 0 + 1 + 4 + 8 + 4 + 8 + 8 + 2 + d.name.size + 2 + d.owner.size + 2 + d.group.size + 2 + d.last.size = t.size := by
    rw [hlen]
    unfold sumD
    omega
  rw [hend] at a10
  refine ⟨by simp only [RS.body, RS.nums, RS.qid, a1, a2, a3, a4, a5, a6, a7, a8, a9, a10], ?_⟩
  simp only [RS.bodyV, RS.nums, RS.qid, a1, a2, a3, a4, a5, a6, a7, a8, a9, a10, v1, v2, v3, v4, v5, v6, v7, v8, v9, v10]
  have e1 : d.kind % 2 ^ (8 * 1) = d.kind := by rw [show (2 : Int) ^ (8 * 1) = 256 by decide]; omega
  have e2 : d.vers % 2 ^ (8 * 4) = d.vers := by rw [show (2 : Int) ^ (8 * 4) = 4294967296 by decide]; omega
  have e3 : modeI (d.mode % 2 ^ (8 * 4)) = d.mode := by
    rw [show (2 : Int) ^ (8 * 4) = 4294967296 by decide]
    unfold modeI
    split <;> omega
  rw [e1, e2, e3]
theorem byts_nums (xs : List Int) (h : ∀ x ∈ xs, 0 ≤ x ∧ x < 256) : byts (strOfNums xs) = xs := by
  unfold byts
  rw [strOfNums_data, List.map_map]
  conv => rhs; rw [← List.map_id xs]
  refine List.map_congr_left (fun x hx => ?_)
  have := h x hx
  simp only [Function.comp_apply, id_eq]
  rw [UInt8.toNat_ofNat_of_lt' (by show x.toNat < 256; omega)]
  omega
theorem byts_append (s t : ByteArray) : byts (s ++ t) = byts s ++ byts t := by simp [byts]
theorem byts_extract (s : ByteArray) (i n : Nat) : byts (s.extract i (i + n)) = ((byts s).drop i).take n := by
  unfold byts
  rw [ByteArray.data_extract, Array.toList_extract]
  simp only [List.extract_eq_take_drop, List.map_take, List.map_drop]
  congr 1
  omega
theorem leb_range (n : Int) : ∀ k, ∀ x ∈ leb n k, 0 ≤ x ∧ x < 256
  | 0, x, h => by cases h
  | k + 1, x, h => by
    rw [leb, List.mem_append] at h
    rcases h with h | h
    · exact leb_range n k x h
    · simp only [List.mem_singleton] at h
      subst h
      omega
theorem byts_range (s : ByteArray) : ∀ x ∈ byts s, 0 ≤ x ∧ x < 256 := by
  intro x h
  obtain ⟨b, _, rfl⟩ := List.mem_map.1 h
  have := b.toNat_lt
  omega
theorem bodyR_range (d : DirV) (hs : shortD d) : ∀ x ∈ bodyR d, 0 ≤ x ∧ x < 256 := by
  have hs' := hs
  unfold shortD at hs'
  unfold bodyR
  rw [(textsBytes_short d hs).1, (sizedBytes_ok d.name (by omega)).1, (sizedBytes_ok d.owner (by omega)).1, (sizedBytes_ok d.group (by omega)).1, (sizedBytes_ok d.last (by omega)).1]
  intro x h
  simp only [List.mem_append] at h
  rcases h with (((((h | h) | h) | h) | h) | h) | ((h | h) | ((h | h) | ((h | h) | (h | h))))
  all_goals first | exact leb_range _ _ x h | exact byts_range _ x h
/-- The round: a Dir that was written is read, whatever follows. -/
theorem decF_enc (d : DirV) (rest : ByteArray) (hs : shortD d) (hw : d.Wf) (hc : chkD d = 0) : decF ((encF d).1 ++ rest) = (d, ((encF d).1.size : Int), 0) := by
  have hb : bodyBad d = false := by
    cases hb : bodyBad d with
    | false => rfl
    | true => unfold chkD at hc; rw [hb] at hc; simp at hc
  obtain ⟨he, hsz, hle⟩ := enc_str d hs hc
  have hL : (bodyR d).length = 41 + sumD d := by rw [show bodyR d = bodyBytes d from (body_good d hs hb).1.symm]; exact (body_good d hs hb).2
  have h0 : Rest ((encF d).1 ++ rest) 0 (leb ((bodyR d).length : Int) 2 ++ (bodyR d ++ byts rest)) := by
    unfold Rest
    rw [List.drop_zero, byts_append, he, byts_nums, List.append_assoc]
    intro x h
    rcases List.mem_append.1 h with h | h
    · exact leb_range _ _ x h
    · exact bodyR_range d hs x h
  have hsum : ((encF d).1 ++ rest).size = 43 + sumD d + rest.size := by rw [ByteArray.size_append, hsz]
  generalize hS : (encF d).1 ++ rest = S at *
  have h1 := h0.num (by omega)
  rw [show (2 : Int) ^ (8 * 2) = 65536 by decide, hL] at h1
  have h2 : leN S 0 2 = (41 + sumD d : Nat) := by rw [h1]; omega
  have hv : litV S 0 0 2 = (41 + sumD d : Nat) := by unfold litV; rw [if_pos ⟨rfl, by omega⟩, h2]
  have hE : litE S 0 0 2 = 0 := by unfold litE; rw [if_pos rfl, if_pos (by omega)]
  have h3 := h0.next
  rw [leb_length] at h3
  have ht : Rest (S.extract 2 (41 + sumD d + 2)) 0 (bodyR d) := by
    unfold Rest at h3 ⊢
    rw [List.drop_zero, show 41 + sumD d + 2 = 2 + (41 + sumD d) by omega, byts_extract, h3, ← hL, List.take_left]
  have hQ : dirQ S = ⟨S.extract 2 (41 + sumD d + 2), 0, 0, false, false, false⟩ := by unfold dirQ; rw [hv]; rfl
  obtain ⟨hB, hV⟩ := body_rest d _ hs hw hb ht
  have hF : (dirQ S).body.finish.err = 0 := by
    rw [hQ, hB]
    simp [RS.finish, RS.err, endE]
  unfold decF
  rw [if_neg (by rw [hE]; simp), hv, if_neg (by rw [hsum]; omega), if_neg (by omega), if_pos hF, hQ, hV, hsz]
  congr 2
  omega
end Go.Proofs.YtflofpnagfoeeaaDoor
