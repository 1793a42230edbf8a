/- The table 'words' (styx.words): what the three functions that read it return. -/
import Derived.Test.YtflofpnagfoeeaaDoorStMem
import Derived.Test.YtflofpnagfoeeaaDoorRows
import Derived.Maps.Own
import Derived.Maps.StringElems
import Derived.ProofKit
import Derived.Deep.RegionWith
set_option linter.unusedSimpArgs false
set_option linter.unusedVariables false
namespace Go.Proofs.YtflofpnagfoeeaaDoor
open Go.RowKit Go.Maps

/-- The word of a request's kind. -/
def wordS (k : Int) : ByteArray :=
  if k = 100 then ⟨#[118, 101, 114, 115, 105, 111, 110]⟩ else if k = 102 then ⟨#[97, 117, 116, 104]⟩ else if k = 104 then ⟨#[97, 116, 116, 97, 99, 104]⟩ else if k = 108 then ⟨#[102, 108, 117, 115, 104]⟩
  else if k = 110 then ⟨#[119, 97, 108, 107]⟩ else if k = 112 then ⟨#[111, 112, 101, 110]⟩ else if k = 114 then ⟨#[99, 114, 101, 97, 116, 101]⟩ else if k = 116 then ⟨#[114, 101, 97, 100]⟩
  else if k = 118 then ⟨#[119, 114, 105, 116, 101]⟩ else if k = 120 then ⟨#[99, 108, 117, 110, 107]⟩ else if k = 122 then ⟨#[114, 101, 109, 111, 118, 101]⟩ else if k = 124 then ⟨#[115, 116, 97, 116]⟩
  else if k = 126 then ⟨#[119, 115, 116, 97, 116]⟩ else ⟨#[]⟩
theorem words_at (k : Int) : (Rows.laid_acheron_styx_words (H := Unit)).atKey (.int .i64 k) (.lit (.string [])) = .lit (.string (wordS k).data.toList) := by
  by_cases h100 : k = 100
  · subst h100; rfl
  by_cases h102 : k = 102
  · subst h102; rfl
  by_cases h104 : k = 104
  · subst h104; rfl
  by_cases h108 : k = 108
  · subst h108; rfl
  by_cases h110 : k = 110
  · subst h110; rfl
  by_cases h112 : k = 112
  · subst h112; rfl
  by_cases h114 : k = 114
  · subst h114; rfl
  by_cases h116 : k = 116
  · subst h116; rfl
  by_cases h118 : k = 118
  · subst h118; rfl
  by_cases h120 : k = 120
  · subst h120; rfl
  by_cases h122 : k = 122
  · subst h122; rfl
  by_cases h124 : k = 124
  · subst h124; rfl
  by_cases h126 : k = 126
  · subst h126; rfl
  have f : ∀ j : Int, k ≠ j → decide (True ∧ j = k) = false := fun j h => by simp; exact fun e => h e.symm
  unfold Rows.laid_acheron_styx_words DataW.atKey wordS
  simp only [List.find?_cons, List.find?_nil, Lit.sameKey, f _ h100, f _ h102, f _ h104, f _ h108, f _ h110, f _ h112, f _ h114, f _ h116, f _ h118, f _ h120, f _ h122, f _ h124, f _ h126, h100, h102, h104, h108, h110, h112, h114, h116, h118, h120, h122, h124, h126, if_false]

/-- The table lies in the world, below block B. -/
def WordsIn (B : Nat) (w : World) : Prop :=
  0 < B ∧ B ≤ w.heap.size ∧ ∃ bm n, bm < B ∧ w.cell? ⟨0, 0, none⟩ = some (.map (some bm)) ∧ w.ownsMap Tryd.prog 3 (plainElem (H := Unit) Tryd.prog 9) bm n Rows.laid_acheron_styx_words
theorem WordsIn.keep {B : Nat} {w w1 : World} (h : WordsIn B w) {F : Nat → Prop} (hu : Upd F w w1) (hF : ∀ k, k < B → ¬ F k) : WordsIn B w1 := by
  obtain ⟨h0, h1, bm, n, hb, hc, es, clock, hm, hf⟩ := h
  refine ⟨h0, Nat.le_trans h1 hu.size, bm, n, hb, hu.cell (p := ⟨0, 0, none⟩) (hF _ h0) hc, es, clock, hu.block_eq (hF _ hb) hm, hf⟩
theorem WordsIn.below {B : Nat} {w w1 : World} (h : WordsIn B w) (hb : Below w.heap.size w w1) : WordsIn B w1 :=
  h.keep (Upd.of_below hb) (fun k hk hF => by have := h.2.1; omega)
theorem keyed_int : Keyed Tryd.prog 3 := int_keyed Tryd.underlying3
theorem strOf_toList {s t : ByteArray} (h : s.data.toList = t.data.toList) : s = t := by
  cases s; cases t; simp at h; simp [h]
/-- A look-up in it. -/
theorem WordsIn.look {B : Nat} {w : World} (h : WordsIn B w) (k : Int) (hk : -9223372036854775808 ≤ k ∧ k < 9223372036854775808) :
    ∃ m, w.cell? ⟨0, 0, none⟩ = some (.map (some m)) ∧ (Instr.lookup 118 (.map (some m)) (.int .i64 k) false).run Tryd.prog w = .ok (.string (wordS k)) w := by
  obtain ⟨h0, h1, bm, n, hb, hc, hm⟩ := h
  refine ⟨bm, hc, ?_⟩
  have hz : (zeroValue 9).run Tryd.prog w = .ok (.string ⟨#[]⟩) w := by kernel_rfl
  have hwf : (Lit.int .i64 k).wf = true := by simp [Lit.wf, IntKind.min, IntKind.max, IntKind.signed, IntKind.bits]; omega
  obtain ⟨v, ps, hrun, hv⟩ := hm.lookup keyed_int Tryd.underlying118 hz (zd := .lit (.string [])) (zp := []) (plainElem_string Tryd.underlying9 (by decide)) (keyOf_int_mk Tryd.underlying3 hwf)
  obtain ⟨s, rfl, hs, _⟩ := plainElem_string_inv Tryd.underlying9 hv
  rw [words_at] at hs
  simp only [Prod.mk.injEq, DataW.lit.injEq, Lit.string.injEq] at hs
  rw [hrun, strOf_toList hs.1]

/-- Is a kind that of a request. -/
def isReq (k : Int) : Bool := k == 100 || k == 102 || k == 104 || k == 108 || k == 110 || k == 112 || k == 114 || k == 116 || k == 118 || k == 120 || k == 122 || k == 124 || k == 126
theorem word_empty : (!(⟨#[]⟩ : ByteArray).toList.isEmpty) = false := by kernel_rfl
theorem wordS_req (k : Int) : (!(wordS k).toList.isEmpty) = isReq k := by
  by_cases h100 : k = 100
  · subst h100; kernel_rfl
  by_cases h102 : k = 102
  · subst h102; kernel_rfl
  by_cases h104 : k = 104
  · subst h104; kernel_rfl
  by_cases h108 : k = 108
  · subst h108; kernel_rfl
  by_cases h110 : k = 110
  · subst h110; kernel_rfl
  by_cases h112 : k = 112
  · subst h112; kernel_rfl
  by_cases h114 : k = 114
  · subst h114; kernel_rfl
  by_cases h116 : k = 116
  · subst h116; kernel_rfl
  by_cases h118 : k = 118
  · subst h118; kernel_rfl
  by_cases h120 : k = 120
  · subst h120; kernel_rfl
  by_cases h122 : k = 122
  · subst h122; kernel_rfl
  by_cases h124 : k = 124
  · subst h124; kernel_rfl
  by_cases h126 : k = 126
  · subst h126; kernel_rfl
  have e : isReq k = false := by simp only [isReq, Bool.or_eq_false_iff, beq_eq_false_iff_ne]; simp [*]
  rw [e, show wordS k = ⟨#[]⟩ from by simp only [wordS, h100, h102, h104, h108, h110, h112, h114, h116, h118, h120, h122, h124, h126, if_false]]
  exact word_empty
theorem wordS_req2 (k : Int) : (wordS k).toList.isEmpty = !isReq k := by rw [← wordS_req, Bool.not_not]
set_option maxRecDepth 100000 in
theorem Request_any {B : Nat} {w : World} (k : Int) (h : WordsIn B w) (hk : -9223372036854775808 ≤ k ∧ k < 9223372036854775808) :
    Calls Tryd.prog 61 #[.int .i64 k] w fun e w' => e = .returned (.bool (isReq k)) ∧ w = w' := by
  obtain ⟨m, hc, hrun⟩ := h.look k hk
  have HR := Aside.mk (wordS_req2 k)
  clear h
  generalize wordS k = s at *
  go_enter Tryd.func61, Tryd.ntmps61
  go_wp2
  go_ret
  refine ⟨?_, rfl⟩
  have e := HR.out
  show Ending.returned (.bool (!s.toList.isEmpty)) = _
  rw [e, Bool.not_not]
/-- The word of a kind, as Word returns it. -/
def wordR (k : Int) : ByteArray := if k = 107 then ⟨#[82, 101, 114, 114, 111, 114]⟩ else if isReq k = true then wordS k else if isReq (wrap64 (k - 1)) = true then ⟨#[82]⟩ ++ wordS (wrap64 (k - 1)) else ⟨#[]⟩
theorem wrap64_bd (k : Int) : -9223372036854775808 ≤ wrap64 k ∧ wrap64 k < 9223372036854775808 := by unfold wrap64; omega
theorem wordS_size (k : Int) : (wordS k).size ≤ 7 := by
  by_cases h100 : k = 100
  · subst h100; decide
  by_cases h102 : k = 102
  · subst h102; decide
  by_cases h104 : k = 104
  · subst h104; decide
  by_cases h108 : k = 108
  · subst h108; decide
  by_cases h110 : k = 110
  · subst h110; decide
  by_cases h112 : k = 112
  · subst h112; decide
  by_cases h114 : k = 114
  · subst h114; decide
  by_cases h116 : k = 116
  · subst h116; decide
  by_cases h118 : k = 118
  · subst h118; decide
  by_cases h120 : k = 120
  · subst h120; decide
  by_cases h122 : k = 122
  · subst h122; decide
  by_cases h124 : k = 124
  · subst h124; decide
  by_cases h126 : k = 126
  · subst h126; decide
  simp only [wordS, h100, h102, h104, h108, h110, h112, h114, h116, h118, h120, h122, h124, h126, if_false]
  decide
set_option maxRecDepth 100000 in
theorem Word_any {B : Nat} {w : World} (k : Int) (h : WordsIn B w) (hk : -9223372036854775808 ≤ k ∧ k < 9223372036854775808) :
    Calls Tryd.prog 49 #[.int .i64 k] w fun e w' => e = .returned (.string (wordR k)) ∧ w = w' := by
  have H := Aside.mk h
  have HK := Aside.mk hk
  obtain ⟨m, hc, hrun⟩ := h.look k hk
  obtain ⟨m', hc', hrun'⟩ := h.look (wrap64 (k - 1)) (wrap64_bd _)
  obtain rfl : m = m' := by rw [hc] at hc'; simpa using hc'
  clear h hk hc'
  by_cases h1 : k = 107
  · have E := Aside.mk (show wordR k = ⟨#[82, 101, 114, 114, 111, 114]⟩ from if_pos h1)
    rw [E.out]
    have hb : (k == 107) = true := beq_iff_eq.2 h1
    clear h1
    go_enter Tryd.func49, Tryd.ntmps49
    go_wp2
    go_ret
    exact ⟨rfl, rfl⟩
  · have hb : (k == 107) = false := beq_eq_false_iff_ne.2 h1
    by_cases h2 : isReq k = true
    · have E := Aside.mk (show wordR k = wordS k by unfold wordR; rw [if_neg h1, if_pos h2])
      rw [E.out]
      have H2 := Aside.mk h2
      clear h1 h2
      go_enter Tryd.func49, Tryd.ntmps49
      go_wp2_with (go_at_call 61; refine (Request_any k H.out HK.out).mono ?_; rintro e w1 ⟨rfl, rfl⟩; rw [H2.out])
      go_ret
      exact ⟨rfl, rfl⟩
    · have H2 := Aside.mk (Bool.eq_false_iff.2 h2)
      by_cases h3 : isReq (wrap64 (k - 1)) = true
      · have E := Aside.mk (show wordR k = ⟨#[82]⟩ ++ wordS (wrap64 (k - 1)) by unfold wordR; rw [if_neg h1, if_neg h2, if_pos h3])
        rw [E.out]
        have H3 := Aside.mk h3
        have hs := wordS_size (wrap64 (k - 1))
        have hl : (1 + (wordS (wrap64 (k - 1))).size ≤ 9223372036854775807) = True := eq_true (by omega)
        have hl2 : (9223372036854775807 < 1 + (wordS (wrap64 (k - 1))).size) = False := eq_false (by omega)
        clear h1 h2 h3 hs
        go_enter Tryd.func49, Tryd.ntmps49
        go_wp2_with fail
        refine (Request_any k H.out HK.out).mono ?_
        rintro e w1 ⟨rfl, rfl⟩
        rw [H2.out]
        go_wp2_with fail
        refine (Request_any (wrap64 (k - 1)) H.out (wrap64_bd _)).mono ?_
        rintro e w1 ⟨rfl, rfl⟩
        rw [H3.out]
        go_wp2_with fail
        go_ret
        exact ⟨rfl, rfl⟩
      · have E := Aside.mk (show wordR k = ⟨#[]⟩ by unfold wordR; rw [if_neg h1, if_neg h2, if_neg h3])
        rw [E.out]
        have H3 := Aside.mk (Bool.eq_false_iff.2 h3)
        clear h1 h2 h3
        go_enter Tryd.func49, Tryd.ntmps49
        go_wp2_with fail
        refine (Request_any k H.out HK.out).mono ?_
        rintro e w1 ⟨rfl, rfl⟩
        rw [H2.out]
        go_wp2_with fail
        refine (Request_any (wrap64 (k - 1)) H.out (wrap64_bd _)).mono ?_
        rintro e w1 ⟨rfl, rfl⟩
        rw [H3.out]
        go_wp2_with fail
        go_ret
        exact ⟨rfl, rfl⟩
end Go.Proofs.YtflofpnagfoeeaaDoor
