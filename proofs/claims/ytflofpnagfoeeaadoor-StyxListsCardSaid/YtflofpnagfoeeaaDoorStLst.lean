/- The law StyxLists returns true for any Dirs and counts: the walk, the row, the card that ties the table of words to the program's text. No condition. -/
import Derived.Test.YtflofpnagfoeeaaDoorStLstP
import Derived.Test.YtflofpnagfoeeaaDoorStSame
import Derived.Test.YtflofpnagfoeeaaDoorStOpn
import Derived.Test.YtflofpnagfoeeaaDoorCards
import Derived.Test.YtflofpnagfoeeaaDoorTie
import Derived.SevenTiedAt
set_option linter.unusedSimpArgs false
set_option linter.unusedVariables false
namespace Go.Proofs.YtflofpnagfoeeaaDoor
open Go.RowKit Go.Proofs.YtflofpnagfoeeaaDoor.Q
open Go.Proofs.YtflofpnagfoeeaaDoorW.PrintWords (Kd ReadsInt)
attribute [local go_sem] Go.Proofs.YtflofpnagfoeeaaDoorW.PrintMore.max2_int Go.Proofs.YtflofpnagfoeeaaDoorW.PrintMore.max_two

def wrongD (d : DirV) : Bool := decide (chkD d ≠ 0)
set_option maxRecDepth 100000 in
set_option maxHeartbeats 1000000 in
theorem lists1_any (w : World) (d : DirV) (hw : d.Wf) (hs : shortD d) :
    Calls Tryd.prog 10 #[.agg d.cells.toArray] w fun e w' => e = .returned (.bool (wrongD d)) ∧ Below w.heap.size w w' := by
  have HE := Aside.mk (CheckDir_any (w.alloc (.cells d.cells.toArray 34)) d hw)
  rw [encF_err d hs] at HE
  have HB := Aside.mk (show (chkD d != 0) = wrongD d by unfold wrongD; by_cases h : chkD d = 0 <;> simp [h])
  clear hw hs
  generalize wrongD d = b at *
  generalize chkD d = c at *
  unfold DirV.cells at HE ⊢
  go_enter Tryd.func10, Tryd.ntmps10
  go_wp2_with (go_at_call 11; refine (HE.out).mono ?_; rintro e w1 ⟨rfl, hb1⟩; have HB1 := Aside.mk hb1; clear hb1)
  go_ret
  exact ⟨congrArg (fun b => Ending.returned (.bool b)) HB.out, ((Below.refl _ _).alloc (Nat.le_refl _) _).trans (HB1.out.mono (by simp))⟩
set_option maxRecDepth 100000 in
set_option maxHeartbeats 1000000 in
theorem indexL_any (w : World) (A0 : Option Addr) (c0 : Nat) (l : List S34) (fv : Value) (hr : Kd.C k34 w A0 l.length l) (hc : l.length ≤ c0) (hl : l.length ≤ 9223372036854775807) (hw : ∀ s ∈ l, (toD s).Wf ∧ shortD (toD s)) (hfv : fv = .func (.func 10) #[] #[]) :
    Calls Tryd.prog 22 #[.slice A0 l.length c0, fv] w fun e w' => (∃ r : Int, e = .returned (.int .i64 r) ∧ decide (0 ≤ r) = l.any fun s => wrongD (toD s)) ∧ Below w.heap.size w w' := by
  obtain ⟨big, hbig⟩ : ∃ big : S34 → Bool, big = fun s => wrongD (toD s) := ⟨_, rfl⟩
  rw [← hbig]
  have HBig := Aside.mk hbig
  have HR := Aside.mk hr
  have HW := Aside.mk hw
  have HL := Aside.mk hl
  have HC := Aside.mk hc
  clear hbig hr hw hc
  subst hfv
  go_enter Tryd.func22, Tryd.ntmps22
  go_wp2
  go_loopw [5, 8] (fun _ i wr => ∃ k : Nat, k ≤ l.length ∧ i = .int .i64 k ∧ Aside ((l.take k).any big = false) ∧ Aside (Below w.heap.size w wr)) (fun _ i _ => l.length - (intOf i).toNat)
  case atStart => exact ⟨0, Nat.zero_le _, rfl, ⟨by simp⟩, ⟨Below.refl _ _⟩⟩
  case round =>
    obtain ⟨k, hk, rfl, HN, HB⟩ := hrel
    by_cases hlt : k < l.length
    · have HLT := Aside.mk hlt
      have HR1 := Aside.mk (Kd.C_below HR.out HB.out)
      obtain ⟨ad, rfl, hx0, hx1, hx2, hx3, hx4, hx5, hx6, hx7, hx8, hx9⟩ := at_T34 HR1.out (k : Int) (by omega) (by omega)
      simp only [Int.toNat_natCast] at hx0 hx1 hx2 hx3 hx4 hx5 hx6 hx7 hx8 hx9
      have HS := Aside.mk (rd_at l k hlt)
      have HF := Aside.mk (lists1_any wr (toD (rd_T34 l (k : Int))) (HW.out _ HS.out.1).1 (HW.out _ HS.out.1).2)
      generalize rd_T34 l (k : Int) = s at *
      cases hb : big s with
      | true =>
        have HB0 := Aside.mk (show wrongD (toD s) = true by rw [← hb, HBig.out])
        rw [HB0.out] at HF
        unfold DirV.cells toD at HF
        go_wp2_with (go_at_call 10; refine (HF.out).mono ?_; rintro e w1 ⟨rfl, hb1⟩; have HB1 := Aside.mk hb1; clear hb1)
        go_ret
        refine ⟨⟨_, rfl, ?_⟩, HB.out.trans (HB1.out.mono HB.out.size)⟩
        have : l.any big = true := List.any_eq_true.2 ⟨s, HS.out.1, hb⟩
        rw [this, decide_eq_true_iff]
        omega
      | false =>
        have HB0 := Aside.mk (show wrongD (toD s) = false by rw [← hb, HBig.out])
        rw [HB0.out] at HF
        unfold DirV.cells toD at HF
        go_wp2_with (go_at_call 10; refine (HF.out).mono ?_; rintro e w1 ⟨rfl, hb1⟩; have HB1 := Aside.mk hb1; clear hb1)
        go_roundw
        case measure => have := HLT.out; simp [intOf]; omega
        case rel => exact ⟨k + 1, by have := HLT.out; omega, by go_num, ⟨by rw [HS.out.2, List.any_append, HN.out]; simp [hb]⟩, ⟨HB.out.trans (HB1.out.mono HB.out.size)⟩⟩
    · have e : k = l.length := by omega
      subst e
      go_wp2
      go_ret
      refine ⟨⟨-1, rfl, ?_⟩, HB.out⟩
      have := HN.out
      rw [List.take_length] at this
      rw [this]
      rfl
set_option maxRecDepth 100000 in
set_option maxHeartbeats 1000000 in
theorem containsL_any (w : World) (A0 : Option Addr) (c0 : Nat) (l : List S34) (hr : Kd.C k34 w A0 l.length l) (hc : l.length ≤ c0) (hl : l.length ≤ 9223372036854775807) (hw : ∀ s ∈ l, (toD s).Wf ∧ shortD (toD s)) :
    Calls Tryd.prog 9 #[.slice A0 l.length c0, .func (.func 10) #[] #[]] w fun e w' => e = .returned (.bool (l.any fun s => wrongD (toD s))) ∧ Below w.heap.size w w' := by
  have HI := Aside.mk (indexL_any w A0 c0 l _ hr hc hl hw rfl)
  clear hr hw
  go_enter Tryd.func9, Tryd.ntmps9
  go_wp2_with (go_at_call 22; refine (HI.out).mono ?_; rintro e w1 ⟨⟨r, rfl, hr1⟩, hb1⟩; have HB1 := Aside.mk hb1; have HR1 := Aside.mk hr1; clear hb1 hr1)
  go_ret
  exact ⟨congrArg (fun b => Ending.returned (.bool b)) HR1.out, HB1.out⟩
set_option maxRecDepth 100000 in
set_option maxHeartbeats 2000000 in
theorem StyxLists_any {w : World} (hW : WordsIn w.heap.size w) (A0 : Option Addr) (c0 : Nat) (l : List S34) (hr : Kd.C k34 w A0 l.length l) (hc : l.length ≤ c0) (hl : l.length ≤ 9223372036854775807) (hw : ∀ s ∈ l, (toD s).Wf)
    (A1 : Option Addr) (c1 : Nat) (z : List Int) (hr1 : ReadsInt w .u16 A1 z.length z) (hz1 : ∀ x ∈ z, (Lit.int .u16 x).wf = true) :
    Calls Tryd.prog 4 #[.slice A0 l.length c0, .slice A1 z.length c1] w fun e w' => e = .returned (.bool true) ∧ Below w.heap.size w w' := by
  have HA := Aside.mk (awake_any w hW)
  have HF := Aside.mk (fun W (hb : Below w.heap.size w W) => fewDirs_any W A0 c0 l (Kd.C_below hr hb) hc hl hw)
  have hzl := hr1.2.1
  cases hfew : fewB l
  · rw [hfew] at HF
    clear hr hw hc hW hfew hr1 hz1
    go_enter Tryd.func4, Tryd.ntmps4
    go_wp2_with (first | (go_at_call 5; refine HA.out.mono ?_; rintro e w1 ⟨rfl, h1⟩; have B1 := Aside.mk h1; clear h1 HA) | (go_at_call 6; refine (HF.out _ B1.out).mono ?_; rintro e w2 ⟨rfl, h1⟩; have B2 := Aside.mk h1; clear h1 HF))
    go_ret
    exact ⟨rfl, B1.out.trans (B2.out.mono B1.out.size)⟩
  · rw [hfew] at HF
    have hs := few_short l hw hfew
    by_cases hz30 : 30 < z.length
    · have h30 : (30 : Int) < z.length := by omega
      clear hr hw hc hW hfew hr1 hz1 hs
      go_enter Tryd.func4, Tryd.ntmps4
      go_wp2_with (first | (go_at_call 5; refine HA.out.mono ?_; rintro e w1 ⟨rfl, h1⟩; have B1 := Aside.mk h1; clear h1 HA) | (go_at_call 6; refine (HF.out _ B1.out).mono ?_; rintro e w2 ⟨rfl, h1⟩; have B2 := Aside.mk h1; clear h1 HF))
      go_ret
      exact ⟨rfl, B1.out.trans (B2.out.mono B1.out.size)⟩
    · have h30 : ¬ (30 : Int) < z.length := by omega
      have HC := Aside.mk (fun W (hb : Below w.heap.size w W) => containsL_any W A0 c0 l (Kd.C_below hr hb) hc hl (fun s hs1 => ⟨hw s hs1, (hs.2 s hs1).1⟩))
      rw [show (l.any fun s => wrongD (toD s)) = !decide (firstErr l = 0) from firstErr_any l] at HC
      by_cases hg : firstErr l = 0
      · have G : Good l := ⟨hs, hg⟩
        rw [show decide (firstErr l = 0) = true from decide_eq_true hg] at HC
        have HEn := Aside.mk (fun W (hb : Below w.heap.size w W) (off count : Int) (ho : off < 9223372036854775808) => styx_Entries.calls 200 A0 c0 l off count (entAll l off count).1 (entAll l off count).2 W (Kd.C_below hr hb) hc (styx_entries l hs off count ho))
        have HDi := Aside.mk (fun W => styx_Dirs.calls 30 (cat (encs l)) l 0 W (dirs_all G))
        have HEq := Aside.mk (fun W (hb : Below w.heap.size w W) A2 c2 (h : Kd.C k34 W A2 l.length l) (h2 : l.length ≤ c2) => api_Dir.calls 30 A2 c2 l A0 c0 l true W h h2 (Kd.C_below hr hb) hc (equal_same l hs.1))
        have HZ := Aside.mk (fun W (hb : Below w.heap.size w W) => hr1.below hb)
        have HG := Aside.mk G
        have HZ1 := Aside.mk hz1
        have l20 := hs.1
        have z30 : z.length ≤ 30 := by omega
        have ET := Aside.mk (show (encs l).take l.length = encs l from List.take_of_length_le (by simp [encs]))
        clear hr hw hc hW hfew hr1 hz1 hs hg G hl hzl hz30
        go_enter Tryd.func4, Tryd.ntmps4
        go_wp2_with (first | (go_at_call 5; refine HA.out.mono ?_; rintro e w1 ⟨rfl, h1⟩; have B1 := Aside.mk h1; clear h1 HA) | (go_at_call 6; refine (HF.out _ B1.out).mono ?_; rintro e w2 ⟨rfl, h1⟩; have B2 := Aside.mk (B1.out.trans (h1.mono B1.out.size)); clear h1 HF) | (go_at_call 9; refine (HC.out _ B2.out).mono ?_; rintro e w3 ⟨rfl, h1⟩; have B3 := Aside.mk (B2.out.trans (h1.mono B2.out.size)); clear h1 HC))
        go_loopw [7, 8] (fun all i wr => ∃ k j : Nat, k ≤ j ∧ j ≤ l.length ∧ i = .int .i64 k ∧ all = .string (cat ((encs l).take j)) ∧ Aside (Below w.heap.size w wr)) (fun _ i _ => z.length + l.length + 1 - (intOf i).toNat)
        case atStart => exact ⟨0, 0, Nat.le_refl _, Nat.zero_le _, rfl, rfl, ⟨B3.out⟩⟩
        case round =>
          obtain ⟨k, j, hkj, hj, rfl, rfl, HB⟩ := hrel
          have hkz : (k : Int) < (z.length : Int) + (l.length : Int) + 1 := by omega
          have hw1 : wrap64 ((z.length : Int) + l.length) = (z.length : Int) + l.length := by unfold wrap64; omega
          have hw2 : wrap64 ((z.length : Int) + l.length + 1) = (z.length : Int) + l.length + 1 := by unfold wrap64; omega
          have hw3 : wrap64 ((k : Int) + 1) = ((k + 1 : Nat) : Int) := by unfold wrap64; omega
          by_cases hk : k < z.length
          · obtain ⟨ad, rfl, hcell⟩ := (HZ.out wr HB.out).at_ (k : Int) (by omega) (by omega)
            rw [Int.toNat_natCast] at hcell
            have hkz2 : (k : Int) < z.length := by omega
            have hx : 0 ≤ Go.Proofs.YtflofpnagfoeeaaDoorW.PrintWords.rd z k ∧ Go.Proofs.YtflofpnagfoeeaaDoorW.PrintWords.rd z k < 65536 := by
              have h8 := HZ1.out (Go.Proofs.YtflofpnagfoeeaaDoorW.PrintWords.rd z (k : Int)) (by unfold Go.Proofs.YtflofpnagfoeeaaDoorW.PrintWords.rd; rw [Int.toNat_natCast, List.getD_eq_getElem?_getD, List.getElem?_eq_getElem hk]; exact List.getElem_mem hk)
              simp [Lit.wf, IntKind.min, IntKind.max, IntKind.signed, IntKind.bits] at h8
              omega
            generalize Go.Proofs.YtflofpnagfoeeaaDoorW.PrintWords.rd z (k : Int) = x at *
            have hxw : wrap64 x = x := by unfold wrap64; omega
            by_cases hx2 : 1024 < x
            · skip
              obtain ⟨m, hm, hE, hsz, h1⟩ := part_read HG.out j hj x (by omega)
              have htot := cat_total HG.out j
              have HE1 := Aside.mk (fun W (hb : Below w.heap.size w W) => by have h9 := HEn.out W hb ((cat ((encs l).take j)).size : Int) x (by omega); rw [hE] at h9; exact h9)
              have HJ := Aside.mk hj
              by_cases hj2 : j < l.length
              · have hm1 := h1 hj2
                have hne := cat_empty HG.out j m (by omega) hm1
                have HCT := Aside.mk (cat_take_add (encs l) j m)
                have HM := Aside.mk (show k + 1 ≤ j + m ∧ j + m ≤ l.length by omega)
                generalize cat (((encs l).drop j).take m) = s at *
                generalize hal : cat ((encs l).take j) = all at *
                have hsb : (all.size + s.size ≤ 9223372036854775807) = True := eq_true (by omega)
                have hsb2 : (9223372036854775807 < all.size + s.size) = False := eq_false (by omega)
                have hsz2 : ¬ x < (s.size : Int) := by omega
                have hne2 : s.toList ≠ [] := by intro e; rw [e] at hne; cases hne
                clear hE h1 hm hm1 hal htot hj2 hsz
                go_wp2_with (go_at_call 7; refine (HE1.out _ HB.out).mono ?_; rintro e w4 ⟨rfl, h1⟩; have B4 := Aside.mk (HB.out.trans (h1.mono HB.out.size)); clear h1 HE1)
                go_roundw
                case rel => exact ⟨k + 1, j + m, HM.out.1, HM.out.2, by go_num, by rw [← HCT.out], ⟨B4.out⟩⟩
                case measure => simp [intOf]; omega
              · obtain rfl : m = 0 := by omega
                obtain rfl : j = l.length := by omega
                rw [show cat (((encs l).drop l.length).take 0) = ⟨#[]⟩ from rfl] at HE1
                rw [ET.out] at HE1 ⊢
                clear hE h1 hm htot hj2 hsz
                generalize cat (encs l) = all at *
                go_wp2_with (first | (go_at_call 7; refine (HE1.out _ HB.out).mono ?_; rintro e w4 ⟨rfl, h1⟩; have B4 := Aside.mk (HB.out.trans (h1.mono HB.out.size)); clear h1 HE1) | (go_at_call 12; refine (HDi.out _).mono ?_; rintro e w5 ⟨v5, rfl, h1, h2⟩; obtain ⟨A5, c5, rfl, h3, h4⟩ := Kd.R_reads h1; have B5 := Aside.mk (B4.out.trans (h2.mono B4.out.size)); have H3 := Aside.mk h3; have H4 := Aside.mk h4; clear h1 h2 h3 h4 HDi) | (go_at_call 13; refine (HEq.out _ B5.out _ _ H4.out H3.out).mono ?_; rintro e w6 ⟨rfl, h1⟩; have B6 := Aside.mk h1; clear h1 HEq))
                go_ret
                exact ⟨rfl, B5.out.trans (B6.out.below.mono B5.out.size)⟩
            · skip
              obtain ⟨m, hm, hE, hsz, h1⟩ := part_read HG.out j hj 1024 (by omega)
              have htot := cat_total HG.out j
              have HE1 := Aside.mk (fun W (hb : Below w.heap.size w W) => by have h9 := HEn.out W hb ((cat ((encs l).take j)).size : Int) 1024 (by omega); rw [hE] at h9; exact h9)
              have HJ := Aside.mk hj
              by_cases hj2 : j < l.length
              · have hm1 := h1 hj2
                have hne := cat_empty HG.out j m (by omega) hm1
                have HCT := Aside.mk (cat_take_add (encs l) j m)
                have HM := Aside.mk (show k + 1 ≤ j + m ∧ j + m ≤ l.length by omega)
                generalize cat (((encs l).drop j).take m) = s at *
                generalize hal : cat ((encs l).take j) = all at *
                have hsb : (all.size + s.size ≤ 9223372036854775807) = True := eq_true (by omega)
                have hsb2 : (9223372036854775807 < all.size + s.size) = False := eq_false (by omega)
                have hsz2 : ¬ 1024 < (s.size : Int) := by omega
                have hne2 : s.toList ≠ [] := by intro e; rw [e] at hne; cases hne
                clear hE h1 hm hm1 hal htot hj2 hsz
                go_wp2_with (go_at_call 7; refine (HE1.out _ HB.out).mono ?_; rintro e w4 ⟨rfl, h1⟩; have B4 := Aside.mk (HB.out.trans (h1.mono HB.out.size)); clear h1 HE1)
                go_roundw
                case rel => exact ⟨k + 1, j + m, HM.out.1, HM.out.2, by go_num, by rw [← HCT.out], ⟨B4.out⟩⟩
                case measure => simp [intOf]; omega
              · obtain rfl : m = 0 := by omega
                obtain rfl : j = l.length := by omega
                rw [show cat (((encs l).drop l.length).take 0) = ⟨#[]⟩ from rfl] at HE1
                rw [ET.out] at HE1 ⊢
                clear hE h1 hm htot hj2 hsz
                generalize cat (encs l) = all at *
                go_wp2_with (first | (go_at_call 7; refine (HE1.out _ HB.out).mono ?_; rintro e w4 ⟨rfl, h1⟩; have B4 := Aside.mk (HB.out.trans (h1.mono HB.out.size)); clear h1 HE1) | (go_at_call 12; refine (HDi.out _).mono ?_; rintro e w5 ⟨v5, rfl, h1, h2⟩; obtain ⟨A5, c5, rfl, h3, h4⟩ := Kd.R_reads h1; have B5 := Aside.mk (B4.out.trans (h2.mono B4.out.size)); have H3 := Aside.mk h3; have H4 := Aside.mk h4; clear h1 h2 h3 h4 HDi) | (go_at_call 13; refine (HEq.out _ B5.out _ _ H4.out H3.out).mono ?_; rintro e w6 ⟨rfl, h1⟩; have B6 := Aside.mk h1; clear h1 HEq))
                go_ret
                exact ⟨rfl, B5.out.trans (B6.out.below.mono B5.out.size)⟩
          · have hkz2 : ¬ (k : Int) < z.length := by omega
            obtain ⟨m, hm, hE, hsz, h1⟩ := part_read HG.out j hj 1024 (by omega)
            have htot := cat_total HG.out j
            have HE1 := Aside.mk (fun W (hb : Below w.heap.size w W) => by have h9 := HEn.out W hb ((cat ((encs l).take j)).size : Int) 1024 (by omega); rw [hE] at h9; exact h9)
            have HJ := Aside.mk hj
            by_cases hj2 : j < l.length
            · have hm1 := h1 hj2
              have hne := cat_empty HG.out j m (by omega) hm1
              have HCT := Aside.mk (cat_take_add (encs l) j m)
              have HM := Aside.mk (show k + 1 ≤ j + m ∧ j + m ≤ l.length by omega)
              generalize cat (((encs l).drop j).take m) = s at *
              generalize hal : cat ((encs l).take j) = all at *
              have hsb : (all.size + s.size ≤ 9223372036854775807) = True := eq_true (by omega)
              have hsb2 : (9223372036854775807 < all.size + s.size) = False := eq_false (by omega)
              have hsz2 : ¬ 1024 < (s.size : Int) := by omega
              have hne2 : s.toList ≠ [] := by intro e; rw [e] at hne; cases hne
              clear hE h1 hm hm1 hal htot hj2 hsz
              go_wp2_with (go_at_call 7; refine (HE1.out _ HB.out).mono ?_; rintro e w4 ⟨rfl, h1⟩; have B4 := Aside.mk (HB.out.trans (h1.mono HB.out.size)); clear h1 HE1)
              go_roundw
              case rel => exact ⟨k + 1, j + m, HM.out.1, HM.out.2, by go_num, by rw [← HCT.out], ⟨B4.out⟩⟩
              case measure => simp [intOf]; omega
            · obtain rfl : m = 0 := by omega
              obtain rfl : j = l.length := by omega
              rw [show cat (((encs l).drop l.length).take 0) = ⟨#[]⟩ from rfl] at HE1
              rw [ET.out] at HE1 ⊢
              clear hE h1 hm htot hj2 hsz
              generalize cat (encs l) = all at *
              go_wp2_with (first | (go_at_call 7; refine (HE1.out _ HB.out).mono ?_; rintro e w4 ⟨rfl, h1⟩; have B4 := Aside.mk (HB.out.trans (h1.mono HB.out.size)); clear h1 HE1) | (go_at_call 12; refine (HDi.out _).mono ?_; rintro e w5 ⟨v5, rfl, h1, h2⟩; obtain ⟨A5, c5, rfl, h3, h4⟩ := Kd.R_reads h1; have B5 := Aside.mk (B4.out.trans (h2.mono B4.out.size)); have H3 := Aside.mk h3; have H4 := Aside.mk h4; clear h1 h2 h3 h4 HDi) | (go_at_call 13; refine (HEq.out _ B5.out _ _ H4.out H3.out).mono ?_; rintro e w6 ⟨rfl, h1⟩; have B6 := Aside.mk h1; clear h1 HEq))
              go_ret
              exact ⟨rfl, B5.out.trans (B6.out.below.mono B5.out.size)⟩
      · have hE : entAll l 0 1024 = (⟨#[]⟩, firstErr l) := if_neg hg
        have h1 := styx_entries l hs 0 1024 (by omega)
        rw [hE] at h1
        have H1 := Aside.mk (fun W (hb : Below w.heap.size w W) => styx_Entries.calls 200 A0 c0 l 0 1024 _ _ W (Kd.C_below hr hb) hc h1)
        have hb2 : (firstErr l != 0) = true := bne_iff_ne.2 hg
        rw [show decide (firstErr l = 0) = false from decide_eq_false hg] at HC
        generalize firstErr l = fe at *
        clear hr hw hc hW hfew hr1 hz1 hs hg h1 hE
        go_enter Tryd.func4, Tryd.ntmps4
        go_wp2_with (first | (go_at_call 5; refine HA.out.mono ?_; rintro e w1 ⟨rfl, h1⟩; have B1 := Aside.mk h1; clear h1 HA) | (go_at_call 6; refine (HF.out _ B1.out).mono ?_; rintro e w2 ⟨rfl, h1⟩; have B2 := Aside.mk (B1.out.trans (h1.mono B1.out.size)); clear h1 HF) | (go_at_call 9; refine (HC.out _ B2.out).mono ?_; rintro e w3 ⟨rfl, h1⟩; have B3 := Aside.mk (B2.out.trans (h1.mono B2.out.size)); clear h1 HC) | (go_at_call 7; refine (H1.out _ B3.out).mono ?_; rintro e w4 ⟨rfl, h1⟩; have B4 := Aside.mk (B3.out.trans (h1.mono B3.out.size)); clear h1 H1))
        go_ret
        exact ⟨rfl, B4.out⟩

namespace lists
open Go.ChangeShapes Go.WideShapes Go.ChangeAt
open Go.ChangeMaps (open_string shut_string)
def IsRow (k : IntKind) (w : World) (a : Option Addr) (len cap : Nat) (zs : List Int) : Prop :=
  (a = none ∧ len = 0 ∧ cap = 0 ∧ zs = []) ∨
  ∃ x, a = some x ∧ len ≤ cap ∧ cap ≤ maxLen ∧ zs.length = cap ∧ (∀ i, i < zs.length → w.cell? (x.add i) = some (.int k (zs.getD i 0))) ∧ ∀ n ∈ zs, (Lit.int k n).wf = true
set_option maxRecDepth 100000 in
theorem lifted (os : Os) (started : os.Started) (H : Type) (enc : TypeId × Value → H) :
    ReturnsInHanded {} Tryd.checked os 4 .any (fun w args => (Rows.styxListsSpec.pre enc Tryd.prog Tryd.f4 [] false w args ∧ laidMetH Tryd.prog [("acheron/styx.words", Rows.laid_acheron_styx_words)] w) ∧ sizedMet enc Tryd.prog Tryd.f4 (OpenSpec.ofChange Rows.styxListsSpec) false w args)
      (Rows.styxListsSpec.post enc Tryd.prog Tryd.f4 false true false false) := by
  refine returnsInHanded_of_change_and (C := Tryd.checked) (X := fun w _ => laidMetH Tryd.prog [("acheron/styx.words", Rows.laid_acheron_styx_words)] w) (fun _ _ _ hh h => h.of_heap hh) own started (by kernel_rfl) Tryd.func4
    (ChangeSpec.witness_shaped (enc := enc) (C := Tryd.checked) (os := os) (X := fun w _ => laidMetH Tryd.prog [("acheron/styx.words", Rows.laid_acheron_styx_words)] w) false (World.doorLaid Tryd.prog 79 os) #[.slice none 0 0, .slice none 0 0] 8 rfl (World.shaped_of_RefB (by kernel_rfl) (by kernel_rfl)) (by kernel_rfl) (by kernel_rfl) (by kernel_rfl) (door_met os _)) ?_
  intro W base args ds gs before hval0 hW hcnd hsz0 hL _
  have hsz : (DataW.weightsEach Tryd.prog (Tryd.f4.params.toList ++ Rows.styxListsSpec.plain.varTypes Tryd.prog) (ds ++ gs)).all (· ≤ reachBytes) = true := hsz0
  have hval : ∀ (j : Nat) t v, Tryd.f4.params[j]? = some t → args[j]? = some v → Value.okWide Tryd.prog W .any base t v := hval0
  have hW' := hW
  obtain ⟨p, q, hA0, hV, rfl, hfz, hnd⟩ := hW
  have hA : DataW.TrodAll enc Tryd.prog W 0 (fun _ => true) true Tryd.f4.params.toList args.toList ds p := hA0
  rw [Tryd.params4] at hA hval hsz
  obtain ⟨v0, vs0, d0, ds0, p0, q0, hargs, rfl, rfl, h0, r0⟩ := trodAll_cons hA
  obtain ⟨v1, vs1, d1, ds1, p1, q1, rfl, rfl, rfl, h1, r1⟩ := trodAll_cons r0
  obtain ⟨rfl, rfl, rfl⟩ := trodAll_nil r1
  obtain rfl : args = #[v0, v1] := by cases args; simp_all
  obtain ⟨rfl, rfl⟩ := trodVars_none hV
  obtain ⟨a0, len0, cap0, rfl⟩ := okWide_slice Tryd.underlying22 (hval 0 22 v0 rfl rfl)
  have kk0 := h0
  have lt0 : ∀ x ∈ p0, x.block < W.heap.size := by obtain ⟨m, hm⟩ := kk0; exact DataW.trod_lt m _ _ _ hm
  obtain ⟨fuel, hf⟩ := h0
  obtain ⟨A, cap, l, hcs, hl1, hl2, hC, hWf⟩ := open_dirs hf (fun n hn => by
    have := List.all_eq_true.1 hsz n (DataW.weights_mem_each (j := 0) rfl rfl n hn)
    simpa using this)
  simp [Value.cells] at hcs
  obtain ⟨rfl, rfl, rfl⟩ := hcs
  obtain ⟨a1, len1, cap1, rfl⟩ := okWide_slice Tryd.underlying29 (hval 1 29 v1 rfl rfl)
  have kk1 := h1
  have lt1 : ∀ x ∈ p1, x.block < W.heap.size := by obtain ⟨m, hm⟩ := kk1; exact DataW.trod_lt m _ _ _ hm
  obtain ⟨z1, w1⟩ : ∃ zs, IsRow .u16 W a1 len1 cap1 zs := by
    obtain ⟨fuel, hf⟩ := h1
    rcases open_ints Tryd.underlying29 Tryd.underlying37 (by kernel_rfl) hf with ⟨hcs, _⟩ | ⟨x, l, c, zs, hcs, _, hl, hm, hz, _, hcell, hwz⟩
    · simp [Value.cells] at hcs
      obtain ⟨rfl, rfl, rfl⟩ := hcs
      exact ⟨[], .inl ⟨rfl, rfl, rfl, rfl⟩⟩
    · simp [Value.cells] at hcs
      obtain ⟨rfl, rfl, rfl⟩ := hcs
      exact ⟨zs, .inr ⟨_, rfl, hl, hm, by simpa using hz, hcell, hwz⟩⟩
  obtain ⟨z, rfl, hr1, hm1, hw1, hc1⟩ := ReadsInt.ofRowC w1
  have hll := hC.2.1
  clear hA0 hval0 hsz0 hsz
  refine (StyxLists_any (words_in hL) a0 cap0 l hC hl1 hll hWf a1 cap1 z hr1 hw1).mono fun e W' ⟨he, bel⟩ => ?_
  subst he
  exact ⟨_, rfl, _, _, _, [], _, [], hW', trodAll_mk1 (shut_bool Tryd.underlying4 _), (trodAll_cons_mk (Below.trod laidOut (by kernel_rfl) (of_decide_eq_true (by kernel_rfl)) kk0 bel lt0) (trodAll_cons_mk (Below.trod laidOut (by kernel_rfl) (of_decide_eq_true (by kernel_rfl)) kk1 bel lt1) trodAll_mk0)), rfl, bel.frame _, fun h => by cases h⟩
theorem over : Rows.StyxListsSaid :=
  OpenClaim.holds_of_wide 4 Tryd.f4 rfl rfl rfl rfl rfl rfl rfl ⟨rfl, rfl, rfl, rfl, rfl⟩ rfl rfl rfl rfl rfl (by kernel_rfl) Tryd.func4 (by kernel_rfl)
    (of_decide_eq_true (by kernel_rfl)) (by unfold Func.isWrapper; first | (rw [if_pos (by decide +kernel)]; kernel_rfl) | (rw [if_neg (by decide +kernel)]; exact ⟨rfl, rfl⟩))
    (fun os started H enc _ => lifted os started H enc)
end lists
theorem styxLists_card : Rows.StyxListsCardSaid :=
  Claim7.holds_tied_plain_at .later [] [.mapped] true (true, "fe61f98ac60f37b5c7e86843ba858931558a5a40e4e70aa476bc92d3cbbc57eb") false
    lists.over (fun _ h => by cases h) (by kernel_rfl) (fun _ h => by cases h) styxLists_row_tie rfl ⟨rfl, rfl⟩ (by kernel_rfl) rfl
    (fun f fn hf hfn => by
      obtain rfl : f = 4 := Option.some.inj ((show Tryd.prog.funcNamed "acheron/acheronlaw31.StyxLists" = some 4 by kernel_rfl).symm.trans hf) |>.symm
      obtain rfl : fn = Tryd.f4 := (Option.some.inj (Tryd.func4.symm.trans hfn)).symm
      exact ⟨by kernel_rfl, fun j t ht => by
        rw [Tryd.params4] at ht
        have hm : t ∈ [22, 29] := by simpa using Array.mem_of_getElem? ht
        have hall : ([22, 29].all fun u => !Tryd.prog.wantsStandIn u) = true := by kernel_rfl
        exact (show Tryd.prog.wantsStandIn t = false by simpa using List.all_eq_true.1 hall t hm)⟩)
    (by kernel_rfl)
#print axioms styxLists_card
end Go.Proofs.YtflofpnagfoeeaaDoor
