/- The law StyxEntries returns true for any Dirs, offset and count: the walk, the row, the card that ties the table of words to the program's text. No condition. -/
import Derived.Test.YtflofpnagfoeeaaDoorStLaw
import Derived.Test.YtflofpnagfoeeaaDoorStSame
import Derived.Test.YtflofpnagfoeeaaDoorStOpn
import Derived.Test.YtflofpnagfoeeaaDoorCards
import Derived.Test.YtflofpnagfoeeaaDoorTie
import Derived.SevenTiedAt
set_option linter.unusedSimpArgs false
set_option linter.unusedVariables false
namespace Go.Proofs.YtflofpnagfoeeaaDoor
open Go.RowKit Go.Proofs.YtflofpnagfoeeaaDoor.Q
open Go.Proofs.YtflofpnagfoeeaaDoorW.PrintWords (Kd)

set_option maxRecDepth 100000 in
set_option maxHeartbeats 1000000 in
theorem StyxEntries_any {w : World} (hW : WordsIn w.heap.size w) (A0 : Option Addr) (c0 : Nat) (l : List S34) (hr : Kd.C k34 w A0 l.length l) (hc : l.length ≤ c0) (hl : l.length ≤ 9223372036854775807) (hw : ∀ s ∈ l, (toD s).Wf) (off count : Int) (ho : off < 9223372036854775808) :
    Calls Tryd.prog 3 #[.slice A0 l.length c0, .int .i64 off, .int .i64 count] w fun e w' => e = .returned (.bool true) ∧ Below w.heap.size w w' := by
  have HA := Aside.mk (awake_any w hW)
  have HF := Aside.mk (fun W (hb : Below w.heap.size w W) => fewDirs_any W A0 c0 l (Kd.C_below hr hb) hc hl hw)
  cases hfew : fewB l
  · rw [hfew] at HF
    clear hr hw hc hW hfew
    go_enter Tryd.func3, Tryd.ntmps3
    go_wp2_with (first | (go_at_call 5; refine HA.out.mono ?_; rintro e w1 ⟨rfl, h1⟩; have B1 := Aside.mk h1; clear h1 HA) | (go_at_call 6; refine (HF.out _ B1.out).mono ?_; rintro e w2 ⟨rfl, h1⟩; have B2 := Aside.mk h1; clear h1 HF))
    go_ret
    exact ⟨rfl, B1.out.trans (B2.out.mono B1.out.size)⟩
  · rw [hfew] at HF
    have hs := few_short l hw hfew
    obtain ⟨s, er, hE⟩ : ∃ s er, entAll l off count = (s, er) := ⟨_, _, rfl⟩
    have h1 := styx_entries l hs off count ho
    have h2 := ref_entries l hs off count
    rw [hE] at h1 h2
    have H1 := Aside.mk (fun W (hb : Below w.heap.size w W) => styx_Entries.calls 200 A0 c0 l off count s er W (Kd.C_below hr hb) hc h1)
    have H2 := Aside.mk (fun W (hb : Below w.heap.size w W) => acheronref31_Entries.calls 200 A0 c0 l off count s er W (Kd.C_below hr hb) hc h2)
    clear hr hw hc hW hfew h1 h2 hE hs
    go_enter Tryd.func3, Tryd.ntmps3
    go_wp2_with (first | (go_at_call 5; refine HA.out.mono ?_; rintro e w1 ⟨rfl, h1⟩; have B1 := Aside.mk h1; clear h1 HA) | (go_at_call 6; refine (HF.out _ B1.out).mono ?_; rintro e w2 ⟨rfl, h1⟩; have B2 := Aside.mk (B1.out.trans (h1.mono B1.out.size)); clear h1 HF) | (go_at_call 7; refine (H1.out _ B2.out).mono ?_; rintro e w3 ⟨rfl, h1⟩; have B3 := Aside.mk (B2.out.trans (h1.mono B2.out.size)); clear h1 H1) | (go_at_call 8; refine (H2.out _ B3.out).mono ?_; rintro e w4 ⟨rfl, h1⟩; have B4 := Aside.mk (B3.out.trans (h1.mono B3.out.size)); clear h1 H2))
    go_ret
    exact ⟨rfl, B4.out⟩

namespace entries
open Go.ChangeShapes Go.WideShapes Go.ChangeAt
open Go.ChangeMaps (open_string shut_string)
set_option maxRecDepth 100000 in
theorem lifted (os : Os) (started : os.Started) (H : Type) (enc : TypeId × Value → H) :
    ReturnsInHanded {} Tryd.checked os 3 .any (fun w args => (Rows.styxEntriesSpec.pre enc Tryd.prog Tryd.f3 [] false w args ∧ laidMetH Tryd.prog [("acheron/styx.words", Rows.laid_acheron_styx_words)] w) ∧ sizedMet enc Tryd.prog Tryd.f3 (OpenSpec.ofChange Rows.styxEntriesSpec) false w args)
      (Rows.styxEntriesSpec.post enc Tryd.prog Tryd.f3 false true false false) := by
  refine returnsInHanded_of_change_and (C := Tryd.checked) (X := fun w _ => laidMetH Tryd.prog [("acheron/styx.words", Rows.laid_acheron_styx_words)] w) (fun _ _ _ hh h => h.of_heap hh) own started (by kernel_rfl) Tryd.func3
    (ChangeSpec.witness_shaped (enc := enc) (C := Tryd.checked) (os := os) (X := fun w _ => laidMetH Tryd.prog [("acheron/styx.words", Rows.laid_acheron_styx_words)] w) false (World.doorLaid Tryd.prog 79 os) #[.slice none 0 0, .int .i64 0, .int .i64 0] 8 rfl (World.shaped_of_RefB (by kernel_rfl) (by kernel_rfl)) (by kernel_rfl) (by kernel_rfl) (by kernel_rfl) (door_met os _)) ?_
  intro W base args ds gs before hval0 hW hcnd hsz0 hL _
  have hsz : (DataW.weightsEach Tryd.prog (Tryd.f3.params.toList ++ Rows.styxEntriesSpec.plain.varTypes Tryd.prog) (ds ++ gs)).all (· ≤ reachBytes) = true := hsz0
  have hval : ∀ (j : Nat) t v, Tryd.f3.params[j]? = some t → args[j]? = some v → Value.okWide Tryd.prog W .any base t v := hval0
  have hW' := hW
  obtain ⟨p, q, hA0, hV, rfl, hfz, hnd⟩ := hW
  have hA : DataW.TrodAll enc Tryd.prog W 0 (fun _ => true) true Tryd.f3.params.toList args.toList ds p := hA0
  rw [Tryd.params3] at hA hval hsz
  obtain ⟨v0, vs0, d0, ds0, p0, q0, hargs, rfl, rfl, h0, r0⟩ := trodAll_cons hA
  obtain ⟨v1, vs1, d1, ds1, p1, q1, rfl, rfl, rfl, h1, r1⟩ := trodAll_cons r0
  obtain ⟨v2, vs2, d2, ds2, p2, q2, rfl, rfl, rfl, h2, r2⟩ := trodAll_cons r1
  obtain ⟨rfl, rfl, rfl⟩ := trodAll_nil r2
  obtain rfl : args = #[v0, v1, v2] := by cases args; simp_all
  obtain ⟨rfl, rfl⟩ := trodVars_none hV
  obtain ⟨a0, len0, cap0, rfl⟩ := okWide_slice Tryd.underlying22 (hval 0 22 v0 rfl rfl)
  have kk0 := h0
  have lt0 : ∀ x ∈ p0, x.block < W.heap.size := by obtain ⟨m, hm⟩ := kk0; exact DataW.trod_lt m _ _ _ hm
  obtain ⟨fuel, hf⟩ := h0
  obtain ⟨A, cap, l, hcs, hl1, hl2, hC, hWf⟩ := open_dirs hf (fun n hn => by
    have := List.all_eq_true.1 hsz n (DataW.weights_mem_each (j := 0) rfl rfl n hn)
    simpa using this)
  simp [Value.cells] at hcs
  obtain ⟨rfl, rfl, rfl⟩ := hcs
  obtain ⟨a1, rfl, rfl, rfl, w1⟩ := open_int Tryd.underlying2 (hval 1 2 v1 rfl rfl) h1
  obtain ⟨a2, rfl, rfl, rfl, w2⟩ := open_int Tryd.underlying3 (hval 2 3 v2 rfl rfl) h2
  have hll := hC.2.1
  clear hA0 hval0 hsz0 hsz
  refine (StyxEntries_any (words_in hL) a0 cap0 l hC hl1 hll hWf a1 a2 (i64_wf w1).2).mono fun e W' ⟨he, bel⟩ => ?_
  subst he
  exact ⟨_, rfl, _, _, _, [], _, [], hW', trodAll_mk1 (shut_bool Tryd.underlying4 _), (trodAll_cons_mk (Below.trod laidOut (by kernel_rfl) (of_decide_eq_true (by kernel_rfl)) kk0 bel lt0) (trodAll_cons_mk (shut_int Tryd.underlying2 w1) (trodAll_cons_mk (shut_int Tryd.underlying3 w2) trodAll_mk0))), rfl, bel.frame _, fun h => by cases h⟩
theorem over : Rows.StyxEntriesSaid :=
  OpenClaim.holds_of_wide 3 Tryd.f3 rfl rfl rfl rfl rfl rfl rfl ⟨rfl, rfl, rfl, rfl, rfl⟩ rfl rfl rfl rfl rfl (by kernel_rfl) Tryd.func3 (by kernel_rfl)
    (of_decide_eq_true (by kernel_rfl)) (by unfold Func.isWrapper; first | (rw [if_pos (by decide +kernel)]; kernel_rfl) | (rw [if_neg (by decide +kernel)]; exact ⟨rfl, rfl⟩))
    (fun os started H enc _ => lifted os started H enc)
end entries
theorem styxEntries_card : Rows.StyxEntriesCardSaid :=
  Claim7.holds_tied_plain_at .later [] [.mapped] true (true, "fe61f98ac60f37b5c7e86843ba858931558a5a40e4e70aa476bc92d3cbbc57eb") false
    entries.over (fun _ h => by cases h) (by kernel_rfl) (fun _ h => by cases h) styxEntries_row_tie rfl ⟨rfl, rfl⟩ (by kernel_rfl) rfl
    (fun f fn hf hfn => by
      obtain rfl : f = 3 := Option.some.inj ((show Tryd.prog.funcNamed "acheron/acheronlaw31.StyxEntries" = some 3 by kernel_rfl).symm.trans hf) |>.symm
      obtain rfl : fn = Tryd.f3 := (Option.some.inj (Tryd.func3.symm.trans hfn)).symm
      exact ⟨by kernel_rfl, fun j t ht => by
        rw [Tryd.params3] at ht
        have hm : t ∈ [22, 2, 3] := by simpa using Array.mem_of_getElem? ht
        have hall : ([22, 2, 3].all fun u => !Tryd.prog.wantsStandIn u) = true := by kernel_rfl
        exact (show Tryd.prog.wantsStandIn t = false by simpa using List.all_eq_true.1 hall t hm)⟩)
    (by kernel_rfl)
#print axioms styxEntries_card
end Go.Proofs.YtflofpnagfoeeaaDoor
