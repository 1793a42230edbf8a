/- fewDirs: the guard on sizes of the laws of layer 31. -/
import Derived.Test.YtflofpnagfoeeaaDoorStEnc
import Derived.Test.YtflofpnagfoeeaaDoorQ0
set_option linter.unusedSimpArgs false
set_option linter.unusedVariables false
namespace Go.Proofs.YtflofpnagfoeeaaDoor
open Go.RowKit Go.Proofs.YtflofpnagfoeeaaDoor.Q
open Go.Proofs.YtflofpnagfoeeaaDoorW.PrintWords (Kd)

def toD (s : S34) : DirV := ⟨s.f0.f0, s.f0.f1, s.f0.f2, s.f1, s.f2, s.f3, s.f4, s.f5, s.f6, s.f7⟩
theorem rd_at (l : List S34) (k : Nat) (h : k < l.length) : rd_T34 l (k : Int) ∈ l ∧ l.take (k + 1) = l.take k ++ [rd_T34 l (k : Int)] := by
  have e : rd_T34 l (k : Int) = l[k] := by
    unfold rd_T34
    rw [List.getD_eq_getElem?_getD, Int.toNat_natCast, List.getElem?_eq_getElem h]
    rfl
  rw [e]
  exact ⟨List.getElem_mem _, by rw [List.take_add_one, List.getElem?_eq_getElem h]; rfl⟩
def roomD (d : DirV) : Nat := d.name.size + d.owner.size + d.group.size + d.last.size
set_option maxRecDepth 100000 in
set_option maxHeartbeats 1000000 in
theorem room_any (w : World) (d : DirV) (hw : d.Wf) :
    Calls Tryd.prog 18 #[.agg d.cells.toArray] w fun e w' => e = .returned (.int .i64 (roomD d)) ∧ Below w.heap.size w w' := by
  have h1 := hw.s1
  have h2 := hw.s2
  have h3 := hw.s3
  have h4 := hw.s4
  have HE := Aside.mk (show ((roomD d : Nat) : Int) = (d.name.size : Int) + d.owner.size + d.group.size + d.last.size by simp [roomD])
  rw [HE.out]
  clear hw
  unfold DirV.cells
  go_enter Tryd.func18, Tryd.ntmps18
  go_wp2
  go_ret
  exact ⟨rfl, (Below.refl _ _).alloc (Nat.le_refl _) _⟩
def bigD (d : DirV) : Bool := decide (3000 < roomD d)
set_option maxRecDepth 100000 in
set_option maxHeartbeats 1000000 in
theorem few1_any (w : World) (d : DirV) (hw : d.Wf) :
    Calls Tryd.prog 17 #[.agg d.cells.toArray] w fun e w' => e = .returned (.bool (bigD d)) ∧ Below w.heap.size w w' := by
  have HE := Aside.mk (room_any (w.alloc (.cells d.cells.toArray 34)) d hw)
  have HB := Aside.mk (show decide ((3000 : Int) < (roomD d : Int)) = bigD d by simp only [bigD, decide_eq_decide]; omega)
  clear hw
  unfold DirV.cells at HE ⊢
  go_enter Tryd.func17, Tryd.ntmps17
  go_wp2_with (go_at_call 18; refine (HE.out).mono ?_; rintro e w1 ⟨rfl, hb1⟩; have HB1 := Aside.mk hb1; clear hb1)
  go_ret
  exact ⟨congrArg (fun b => Ending.returned (.bool b)) HB.out, ((Below.refl _ _).alloc (Nat.le_refl _) _).trans (HB1.out.mono (by simp))⟩

set_option maxRecDepth 100000 in
set_option maxHeartbeats 1000000 in
theorem indexF_any (w : World) (A0 : Option Addr) (c0 : Nat) (l : List S34) (fv : Value) (hr : Kd.C k34 w A0 l.length l) (hc : l.length ≤ c0) (hl : l.length ≤ 9223372036854775807) (hw : ∀ s ∈ l, (toD s).Wf) (hfv : fv = .func (.func 17) #[] #[]) :
    Calls Tryd.prog 22 #[.slice A0 l.length c0, fv] w fun e w' => (∃ r : Int, e = .returned (.int .i64 r) ∧ decide (0 ≤ r) = l.any fun s => bigD (toD s)) ∧ Below w.heap.size w w' := by
  obtain ⟨big, hbig⟩ : ∃ big : S34 → Bool, big = fun s => bigD (toD s) := ⟨_, rfl⟩
  rw [← hbig]
  have HBig := Aside.mk hbig
  have HR := Aside.mk hr
  have HW := Aside.mk hw
  have HL := Aside.mk hl
  have HC := Aside.mk hc
  clear hbig hr hw hc
  subst hfv
  go_enter Tryd.func22, Tryd.ntmps22
  go_wp2
  go_loopw [5, 8] (fun _ i wr => ∃ k : Nat, k ≤ l.length ∧ i = .int .i64 k ∧ Aside ((l.take k).any big = false) ∧ Aside (Below w.heap.size w wr)) (fun _ i _ => l.length - (intOf i).toNat)
  case atStart => exact ⟨0, Nat.zero_le _, rfl, ⟨by simp⟩, ⟨Below.refl _ _⟩⟩
  case round =>
    obtain ⟨k, hk, rfl, HN, HB⟩ := hrel
    by_cases hlt : k < l.length
    · have HLT := Aside.mk hlt
      have HR1 := Aside.mk (Kd.C_below HR.out HB.out)
      obtain ⟨ad, rfl, hx0, hx1, hx2, hx3, hx4, hx5, hx6, hx7, hx8, hx9⟩ := at_T34 HR1.out (k : Int) (by omega) (by omega)
      simp only [Int.toNat_natCast] at hx0 hx1 hx2 hx3 hx4 hx5 hx6 hx7 hx8 hx9
      have HS := Aside.mk (rd_at l k hlt)
      have HF := Aside.mk (few1_any wr (toD (rd_T34 l (k : Int))) (HW.out _ HS.out.1))
      generalize rd_T34 l (k : Int) = s at *
      cases hb : big s with
      | true =>
        have HB0 := Aside.mk (show bigD (toD s) = true by rw [← hb, HBig.out])
        rw [HB0.out] at HF
        unfold DirV.cells toD at HF
        go_wp2_with (go_at_call 17; refine (HF.out).mono ?_; rintro e w1 ⟨rfl, hb1⟩; have HB1 := Aside.mk hb1; clear hb1)
        go_ret
        refine ⟨⟨_, rfl, ?_⟩, HB.out.trans (HB1.out.mono HB.out.size)⟩
        have : l.any big = true := List.any_eq_true.2 ⟨s, HS.out.1, hb⟩
        rw [this, decide_eq_true_iff]
        omega
      | false =>
        have HB0 := Aside.mk (show bigD (toD s) = false by rw [← hb, HBig.out])
        rw [HB0.out] at HF
        unfold DirV.cells toD at HF
        go_wp2_with (go_at_call 17; refine (HF.out).mono ?_; rintro e w1 ⟨rfl, hb1⟩; have HB1 := Aside.mk hb1; clear hb1)
        go_roundw
        case measure => have := HLT.out; simp [intOf]; omega
        case rel => exact ⟨k + 1, by have := HLT.out; omega, by go_num, ⟨by rw [HS.out.2, List.any_append, HN.out]; simp [hb]⟩, ⟨HB.out.trans (HB1.out.mono HB.out.size)⟩⟩
    · have e : k = l.length := by omega
      subst e
      go_wp2
      go_ret
      refine ⟨⟨-1, rfl, ?_⟩, HB.out⟩
      have := HN.out
      rw [List.take_length] at this
      rw [this]
      rfl
set_option maxRecDepth 100000 in
set_option maxHeartbeats 1000000 in
theorem containsF_any (w : World) (A0 : Option Addr) (c0 : Nat) (l : List S34) (hr : Kd.C k34 w A0 l.length l) (hc : l.length ≤ c0) (hl : l.length ≤ 9223372036854775807) (hw : ∀ s ∈ l, (toD s).Wf) :
    Calls Tryd.prog 9 #[.slice A0 l.length c0, .func (.func 17) #[] #[]] w fun e w' => e = .returned (.bool (l.any fun s => bigD (toD s))) ∧ Below w.heap.size w w' := by
  have HI := Aside.mk (indexF_any w A0 c0 l _ hr hc hl hw rfl)
  clear hr hw
  go_enter Tryd.func9, Tryd.ntmps9
  go_wp2_with (go_at_call 22; refine (HI.out).mono ?_; rintro e w1 ⟨⟨r, rfl, hr1⟩, hb1⟩; have HB1 := Aside.mk hb1; have HR1 := Aside.mk hr1; clear hb1 hr1)
  go_ret
  exact ⟨congrArg (fun b => Ending.returned (.bool b)) HR1.out, HB1.out⟩
def fewB (l : List S34) : Bool := decide (l.length ≤ 20) && !(l.any fun s => bigD (toD s))
set_option maxRecDepth 100000 in
set_option maxHeartbeats 1000000 in
theorem fewDirs_any (w : World) (A0 : Option Addr) (c0 : Nat) (l : List S34) (hr : Kd.C k34 w A0 l.length l) (hc : l.length ≤ c0) (hl : l.length ≤ 9223372036854775807) (hw : ∀ s ∈ l, (toD s).Wf) :
    Calls Tryd.prog 6 #[.slice A0 l.length c0] w fun e w' => e = .returned (.bool (fewB l)) ∧ Below w.heap.size w w' := by
  have HI := Aside.mk (containsF_any w A0 c0 l hr hc hl hw)
  clear hr hw
  by_cases h : l.length ≤ 20
  · have h2 : (l.length : Int) ≤ 20 := by omega
    have HE := Aside.mk (show (!(l.any fun s => bigD (toD s))) = fewB l by simp [fewB, h])
    go_enter Tryd.func6, Tryd.ntmps6
    go_wp2_with (go_at_call 9; refine (HI.out).mono ?_; rintro e w1 ⟨rfl, hb1⟩; have HB1 := Aside.mk hb1; clear hb1)
    go_ret
    exact ⟨congrArg (fun b => Ending.returned (.bool b)) HE.out, HB1.out⟩
  · have h2 : ¬ (l.length : Int) ≤ 20 := by omega
    have HE := Aside.mk (show false = fewB l by simp [fewB, h])
    go_enter Tryd.func6, Tryd.ntmps6
    go_wp2
    go_ret
    exact ⟨congrArg (fun b => Ending.returned (.bool b)) HE.out, Below.refl _ _⟩
end Go.Proofs.YtflofpnagfoeeaaDoor
