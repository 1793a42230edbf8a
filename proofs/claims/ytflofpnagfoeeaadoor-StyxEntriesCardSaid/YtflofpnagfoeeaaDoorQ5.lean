-- Written by a program of this session out of Lean's print of the translation (wip/myprint.py).
import Derived.Test.YtflofpnagfoeeaaDoorQ0
import Derived.Test.YtflofpnagfoeeaaDoorQ3
import Derived.Test.YtflofpnagfoeeaaDoorQ4
namespace Go.Proofs.YtflofpnagfoeeaaDoor.Q
open Go.RowKit Go.Proofs.YtflofpnagfoeeaaDoorW.PrintWords Go.Proofs.YtflofpnagfoeeaaDoorW.PrintLast Go.Proofs.YtflofpnagfoeeaaDoorW.PrintMore
attribute [local go_sem] max2_int min2_int max_two min_two max_three min_three max_four min_four   -- for this text's walks alone
set_option linter.unusedVariables false
set_option linter.unusedSimpArgs false

/-! ### acheronref31_Entries: function 8 -/
mutual
def acheronref31_Entries.l0 : Nat → List (S34) → Int → Int → Int → Option (ByteArray × Int)
  | 0, _, _, _, _ => none
  | k + 1, x0, x1, x2, x8 => if x8 < (x0.length : Int) then (if 0 ≤ x8 then ((acheronref31_CheckDir.f ((rd_T34 x0 x8).f0.f0) ((rd_T34 x0 x8).f0.f1) ((rd_T34 x0 x8).f0.f2) ((rd_T34 x0 x8).f1) ((rd_T34 x0 x8).f2) ((rd_T34 x0 x8).f3) ((rd_T34 x0 x8).f4) ((rd_T34 x0 x8).f5) ((rd_T34 x0 x8).f6) ((rd_T34 x0 x8).f7)).bind fun t145 => (if t145 = 0 then (acheronref31_Entries.l0 k x0 x1 x2 (wrap64 (x8 + 1))) else (some ((⟨#[]⟩ : ByteArray), t145)))) else (none)) else (acheronref31_Entries.l1 k x0 x1 x2 0 (⟨#[]⟩ : ByteArray) false 0)
def acheronref31_Entries.l1 : Nat → List (S34) → Int → Int → Int → ByteArray → Bool → Int → Option (ByteArray × Int)
  | 0, _, _, _, _, _, _, _ => none
  | k + 1, x0, x1, x2, x10, x11, x12, x13 => if x13 < (x0.length : Int) then (if 0 ≤ x13 then ((acheronref31_dir.f k ((rd_T34 x0 x13).f0.f0) ((rd_T34 x0 x13).f0.f1) ((rd_T34 x0 x13).f0.f2) ((rd_T34 x0 x13).f1) ((rd_T34 x0 x13).f2) ((rd_T34 x0 x13).f3) ((rd_T34 x0 x13).f4) ((rd_T34 x0 x13).f5) ((rd_T34 x0 x13).f6) ((rd_T34 x0 x13).f7)).bind fun t147 => (if x10 = x1 then (if x2 ≥ 0 then (if (t147.size : Int) > x2 then (some ((⟨#[]⟩ : ByteArray), 3)) else (acheronref31_Entries.j2 k x0 x1 x2 x10 x11 true x13 t147)) else (acheronref31_Entries.j2 k x0 x1 x2 x10 x11 true x13 t147)) else (acheronref31_Entries.j2 k x0 x1 x2 x10 x11 x12 x13 t147))) else (none)) else (if x2 < 0 then (some ((⟨#[]⟩ : ByteArray), 11)) else (if x12 = true then (some (x11, 0)) else (if x10 = x1 then (some (x11, 0)) else (some ((⟨#[]⟩ : ByteArray), 11)))))
def acheronref31_Entries.j2 : Nat → List (S34) → Int → Int → Int → ByteArray → Bool → Int → ByteArray → Option (ByteArray × Int)
  | 0, _, _, _, _, _, _, _, _ => none
  | k + 1, x0, x1, x2, x10, x11, x12, x13, x14 => if x12 = true then (if (wrap64 ((x11.size : Int) + (x14.size : Int))) > x2 then (if x2 < 0 then (some ((⟨#[]⟩ : ByteArray), 11)) else (some (x11, 0))) else (if x11.size + x14.size ≤ 9223372036854775807 then (acheronref31_Entries.l1 k x0 x1 x2 (wrap64 (x10 + (x14.size : Int))) (x11 ++ x14) x12 (wrap64 (x13 + 1))) else (none))) else (acheronref31_Entries.l1 k x0 x1 x2 (wrap64 (x10 + (x14.size : Int))) x11 x12 (wrap64 (x13 + 1)))
end
def acheronref31_Entries.f (k : Nat) (l0 : List (S34)) (a1 : Int) (a2 : Int) : Option (ByteArray × Int) := acheronref31_Entries.l0 k l0 a1 a2 0
theorem acheronref31_Entries.mono_l : ∀ k, (∀ y0 y1 y2 y3, LeO (acheronref31_Entries.l0 k y0 y1 y2 y3) (acheronref31_Entries.l0 (k + 1) y0 y1 y2 y3)) ∧ (∀ y0 y1 y2 y3 y4 y5 y6, LeO (acheronref31_Entries.l1 k y0 y1 y2 y3 y4 y5 y6) (acheronref31_Entries.l1 (k + 1) y0 y1 y2 y3 y4 y5 y6)) ∧ (∀ y0 y1 y2 y3 y4 y5 y6 y7, LeO (acheronref31_Entries.j2 k y0 y1 y2 y3 y4 y5 y6 y7) (acheronref31_Entries.j2 (k + 1) y0 y1 y2 y3 y4 y5 y6 y7))
  | 0 => ⟨fun _ _ _ _ r h => by simp [acheronref31_Entries.l0] at h, fun _ _ _ _ _ _ _ r h => by simp [acheronref31_Entries.l1] at h, fun _ _ _ _ _ _ _ _ r h => by simp [acheronref31_Entries.j2] at h⟩
  | k + 1 => by
    obtain ⟨ih0, ih1, ih2⟩ := acheronref31_Entries.mono_l k
    refine ⟨?_, ?_, ?_⟩
    · intro y0 y1 y2 y3
      unfold acheronref31_Entries.l0
      repeat' first
      | (with_reducible exact ih0 _ _ _ _)
      | (with_reducible exact ih1 _ _ _ _ _ _ _)
      | (with_reducible exact ih2 _ _ _ _ _ _ _ _)
      | (with_reducible exact acheronref31_dir.mono _ _ _ _ _ _ _ _ _ _ _)
      | (with_reducible exact LeO.refl _)
      | (with_reducible exact LeO.none _)
      | (with_reducible refine LeO.ite ?_ ?_)
      | (with_reducible refine LeO.bind ?_ (fun _ => ?_))
      | exact ih0 _ _ _ _
      | exact ih1 _ _ _ _ _ _ _
      | exact ih2 _ _ _ _ _ _ _ _
      | exact acheronref31_dir.mono _ _ _ _ _ _ _ _ _ _ _
      | exact LeO.none _
      | refine LeO.ite ?_ ?_
      | refine LeO.bind ?_ (fun _ => ?_)
    · intro y0 y1 y2 y3 y4 y5 y6
      unfold acheronref31_Entries.l1
      repeat' first
      | (with_reducible exact ih0 _ _ _ _)
      | (with_reducible exact ih1 _ _ _ _ _ _ _)
      | (with_reducible exact ih2 _ _ _ _ _ _ _ _)
      | (with_reducible exact acheronref31_dir.mono _ _ _ _ _ _ _ _ _ _ _)
      | (with_reducible exact LeO.refl _)
      | (with_reducible exact LeO.none _)
      | (with_reducible refine LeO.ite ?_ ?_)
      | (with_reducible refine LeO.bind ?_ (fun _ => ?_))
      | exact ih0 _ _ _ _
      | exact ih1 _ _ _ _ _ _ _
      | exact ih2 _ _ _ _ _ _ _ _
      | exact acheronref31_dir.mono _ _ _ _ _ _ _ _ _ _ _
      | exact LeO.none _
      | refine LeO.ite ?_ ?_
      | refine LeO.bind ?_ (fun _ => ?_)
    · intro y0 y1 y2 y3 y4 y5 y6 y7
      unfold acheronref31_Entries.j2
      repeat' first
      | (with_reducible exact ih0 _ _ _ _)
      | (with_reducible exact ih1 _ _ _ _ _ _ _)
      | (with_reducible exact ih2 _ _ _ _ _ _ _ _)
      | (with_reducible exact acheronref31_dir.mono _ _ _ _ _ _ _ _ _ _ _)
      | (with_reducible exact LeO.refl _)
      | (with_reducible exact LeO.none _)
      | (with_reducible refine LeO.ite ?_ ?_)
      | (with_reducible refine LeO.bind ?_ (fun _ => ?_))
      | exact ih0 _ _ _ _
      | exact ih1 _ _ _ _ _ _ _
      | exact ih2 _ _ _ _ _ _ _ _
      | exact acheronref31_dir.mono _ _ _ _ _ _ _ _ _ _ _
      | exact LeO.none _
      | refine LeO.ite ?_ ?_
      | refine LeO.bind ?_ (fun _ => ?_)
theorem acheronref31_Entries.mono : ∀ a0 a1 a2 k, LeO (acheronref31_Entries.f k a0 a1 a2) (acheronref31_Entries.f (k + 1) a0 a1 a2) := by
  intro a0 a1 a2 k
  obtain ⟨ih0, ih1, ih2⟩ := acheronref31_Entries.mono_l k
  unfold acheronref31_Entries.f
  repeat' first
      | (with_reducible exact ih0 _ _ _ _)
      | (with_reducible exact ih1 _ _ _ _ _ _ _)
      | (with_reducible exact ih2 _ _ _ _ _ _ _ _)
      | (with_reducible exact acheronref31_dir.mono _ _ _ _ _ _ _ _ _ _ _)
      | (with_reducible exact LeO.refl _)
      | (with_reducible exact LeO.none _)
      | (with_reducible refine LeO.ite ?_ ?_)
      | (with_reducible refine LeO.bind ?_ (fun _ => ?_))
      | exact ih0 _ _ _ _
      | exact ih1 _ _ _ _ _ _ _
      | exact ih2 _ _ _ _ _ _ _ _
      | exact acheronref31_dir.mono _ _ _ _ _ _ _ _ _ _ _
      | exact LeO.none _
      | refine LeO.ite ?_ ?_
      | refine LeO.bind ?_ (fun _ => ?_)
set_option maxHeartbeats 8000000 in
set_option maxRecDepth 100000 in
theorem acheronref31_Entries.calls (k : Nat) (A0 : Option Addr) (c0 : Nat) (l0 : List (S34)) (a1 : Int) (a2 : Int) (r1 : ByteArray) (r2 : Int) (w : World) (hr0 : Kd.C k34 w A0 l0.length l0) (hc0 : l0.length ≤ c0) (h : acheronref31_Entries.f k l0 a1 a2 = some (r1, r2)) :
    Calls Tryd.prog 8 #[.slice A0 l0.length c0, .int .i64 a1, .int .i64 a2] w fun e w' => e = .returned (.tuple #[.string r1, .int .i64 r2]) ∧ Below w.heap.size w w' := by
  have hu34 := Tryd.underlying34
  have HR0 := Aside0.mk hr0
  have HC0 := Aside0.mk hc0
  clear hr0 hc0
  have HB := Aside0.mk (Below.refl w.heap.size w)
  have H : (acheronref31_Entries.l0 k l0 a1 a2 0) = some (r1, r2) := h
  clear h
  have H' := Aside0.mk H
  clear H
  go_enter Tryd.func8, Tryd.ntmps8
  go_wp2
  go_loopg [8] k (fun kq v8 w' => ∃ (x8_1 : Int), v8 = .int .i64 x8_1 ∧ Aside0 (acheronref31_Entries.l0 kq l0 a1 a2 x8_1 = some (r1, r2)) ∧ Aside0 (kq ≤ k) ∧ Aside0 (Below w.heap.size w w'))
  case atStart => exact ⟨(0), (by first | rfl | (simp; done) | (simp [*]; done)), H', ⟨Nat.le_refl _⟩, ⟨by repeat (first | (with_reducible first | exact HB.out | apply below_alloc | apply pw_below_drewN | apply below_drew1) | exact HB.out)⟩⟩
  case round =>
    clear H'
    try clear p2
    obtain ⟨x8_1, rfl, HA, HK1, HB⟩ := hrel
    cases gk with
    | zero => exact absurd HA.out (by simp [acheronref31_Entries.l0])
    | succ k1 =>
      have H := HA.out
      clear HA
      simp only [acheronref31_Entries.l0] at H
      by_cases c4 : x8_1 < (l0.length : Int)
      · rw [if_pos c4] at H
        have c4b0 : decide (x8_1 < (l0.length : Int)) = true := decide_eq_true c4
        clear c4
        by_cases c5 : 0 ≤ x8_1
        · rw [if_pos c5] at H
          have c5b0 : decide (0 ≤ x8_1) = true := decide_eq_true c5
          clear c5
          replace H := Option.bind_eq_some_iff.mp H
          obtain ⟨t145, A60, H⟩ := H
          replace H : (if t145 = 0 then (acheronref31_Entries.l0 k1 l0 a1 a2 (wrap64 (x8_1 + 1))) else (some ((⟨#[]⟩ : ByteArray), t145))) = some (r1, r2) := H
          have A6 := Aside0.mk A60
          clear A60
          by_cases c7 : t145 = 0
          · rw [if_pos c7] at H
            have c7b0 : (t145 == 0) = true := beq_iff_eq.mpr c7
            have c7b1 : (t145 != 0) = false := bne_eq_false_iff_eq.mpr c7
            clear c7
            have H' := Aside0.mk H
            clear H
            have p144 : 0 ≤ (x8_1 : Int) := of_decide_eq_true (by first | (with_reducible assumption) | assumption)
            have q144 : x8_1 < (l0.length : Int) := of_decide_eq_true (by first | (with_reducible assumption) | assumption)
            obtain ⟨ad144, e144, hx144_0, hx144_1, hx144_2, hx144_3, hx144_4, hx144_5, hx144_6, hx144_7, hx144_8, hx144_9⟩ := at_T34 HR0.out x8_1 p144 q144
            cases e144
            replace hx144_0 := (HB.out.cell (World.block_lt_of_cell? w _ hx144_0)).trans hx144_0
            replace hx144_1 := (HB.out.cell (World.block_lt_of_cell? w _ hx144_1)).trans hx144_1
            replace hx144_2 := (HB.out.cell (World.block_lt_of_cell? w _ hx144_2)).trans hx144_2
            replace hx144_3 := (HB.out.cell (World.block_lt_of_cell? w _ hx144_3)).trans hx144_3
            replace hx144_4 := (HB.out.cell (World.block_lt_of_cell? w _ hx144_4)).trans hx144_4
            replace hx144_5 := (HB.out.cell (World.block_lt_of_cell? w _ hx144_5)).trans hx144_5
            replace hx144_6 := (HB.out.cell (World.block_lt_of_cell? w _ hx144_6)).trans hx144_6
            replace hx144_7 := (HB.out.cell (World.block_lt_of_cell? w _ hx144_7)).trans hx144_7
            replace hx144_8 := (HB.out.cell (World.block_lt_of_cell? w _ hx144_8)).trans hx144_8
            replace hx144_9 := (HB.out.cell (World.block_lt_of_cell? w _ hx144_9)).trans hx144_9
            replace p144 := eq_true p144
            replace q144 := eq_true q144
            go_wp2_with (first | ((with_reducible refine gate_callee (f := 20) rfl ?_); refine goesL_ (some 25) rfl rfl Tryd.func20 (by kernel_rfl) rfl #[.agg #[.int .i64 ((rd_T34 l0 x8_1).f0.f0), .int .i64 ((rd_T34 l0 x8_1).f0.f1), .int .i64 ((rd_T34 l0 x8_1).f0.f2), .int .i64 ((rd_T34 l0 x8_1).f1), .int .i64 ((rd_T34 l0 x8_1).f2), .int .i64 ((rd_T34 l0 x8_1).f3), .string ((rd_T34 l0 x8_1).f4), .string ((rd_T34 l0 x8_1).f5), .string ((rd_T34 l0 x8_1).f6), .string ((rd_T34 l0 x8_1).f7)]] rfl (by (try simp only [List.map_toArray, List.map_cons, List.map_nil]); first | done | rfl | (simp only [List.length_drop, List.length_take]; rfl)) ?_; (with_reducible refine (acheronref31_CheckDir.calls ((rd_T34 l0 x8_1).f0.f0) ((rd_T34 l0 x8_1).f0.f1) ((rd_T34 l0 x8_1).f0.f2) ((rd_T34 l0 x8_1).f1) ((rd_T34 l0 x8_1).f2) ((rd_T34 l0 x8_1).f3) ((rd_T34 l0 x8_1).f4) ((rd_T34 l0 x8_1).f5) ((rd_T34 l0 x8_1).f6) ((rd_T34 l0 x8_1).f7) t145 _ A6.out).mono ?_); rintro e w8 ⟨rfl, hb⟩; refine ⟨_, rfl, ?_⟩; have n0_ := Aside0.mk (below_step (by repeat (first | (with_reducible first | exact HB.out | apply below_alloc | apply pw_below_drewN | apply below_drew1) | exact HB.out)) hb); clear HB; have HB := n0_; clear n0_; (try clear hb); (try clear hb2); (try clear hk); (try clear hi)))
            go_roundg k1
            case measure => have := HK1.out; omega
            case rel => exact ⟨(wrap64 (x8_1 + 1)), (by first | rfl | (simp; done) | (simp [*]; done)), H', ⟨by have := HK1.out; omega⟩, ⟨by repeat (first | (with_reducible first | exact HB.out | apply below_alloc | apply pw_below_drewN | apply below_drew1) | exact HB.out)⟩⟩
          · rw [if_neg c7] at H
            have c7b0 : (t145 == 0) = false := beq_eq_false_iff_ne.mpr c7
            have c7b1 : (t145 != 0) = true := bne_iff_ne.mpr c7
            simp only [Option.some.injEq, Prod.mk.injEq] at H
            obtain ⟨rfl, rfl⟩ := H
            have p144 : 0 ≤ (x8_1 : Int) := of_decide_eq_true (by first | (with_reducible assumption) | assumption)
            have q144 : x8_1 < (l0.length : Int) := of_decide_eq_true (by first | (with_reducible assumption) | assumption)
            obtain ⟨ad144, e144, hx144_0, hx144_1, hx144_2, hx144_3, hx144_4, hx144_5, hx144_6, hx144_7, hx144_8, hx144_9⟩ := at_T34 HR0.out x8_1 p144 q144
            cases e144
            replace hx144_0 := (HB.out.cell (World.block_lt_of_cell? w _ hx144_0)).trans hx144_0
            replace hx144_1 := (HB.out.cell (World.block_lt_of_cell? w _ hx144_1)).trans hx144_1
            replace hx144_2 := (HB.out.cell (World.block_lt_of_cell? w _ hx144_2)).trans hx144_2
            replace hx144_3 := (HB.out.cell (World.block_lt_of_cell? w _ hx144_3)).trans hx144_3
            replace hx144_4 := (HB.out.cell (World.block_lt_of_cell? w _ hx144_4)).trans hx144_4
            replace hx144_5 := (HB.out.cell (World.block_lt_of_cell? w _ hx144_5)).trans hx144_5
            replace hx144_6 := (HB.out.cell (World.block_lt_of_cell? w _ hx144_6)).trans hx144_6
            replace hx144_7 := (HB.out.cell (World.block_lt_of_cell? w _ hx144_7)).trans hx144_7
            replace hx144_8 := (HB.out.cell (World.block_lt_of_cell? w _ hx144_8)).trans hx144_8
            replace hx144_9 := (HB.out.cell (World.block_lt_of_cell? w _ hx144_9)).trans hx144_9
            replace p144 := eq_true p144
            replace q144 := eq_true q144
            go_wp2_with (first | ((with_reducible refine gate_callee (f := 20) rfl ?_); refine goesL_ (some 25) rfl rfl Tryd.func20 (by kernel_rfl) rfl #[.agg #[.int .i64 ((rd_T34 l0 x8_1).f0.f0), .int .i64 ((rd_T34 l0 x8_1).f0.f1), .int .i64 ((rd_T34 l0 x8_1).f0.f2), .int .i64 ((rd_T34 l0 x8_1).f1), .int .i64 ((rd_T34 l0 x8_1).f2), .int .i64 ((rd_T34 l0 x8_1).f3), .string ((rd_T34 l0 x8_1).f4), .string ((rd_T34 l0 x8_1).f5), .string ((rd_T34 l0 x8_1).f6), .string ((rd_T34 l0 x8_1).f7)]] rfl (by (try simp only [List.map_toArray, List.map_cons, List.map_nil]); first | done | rfl | (simp only [List.length_drop, List.length_take]; rfl)) ?_; (with_reducible refine (acheronref31_CheckDir.calls ((rd_T34 l0 x8_1).f0.f0) ((rd_T34 l0 x8_1).f0.f1) ((rd_T34 l0 x8_1).f0.f2) ((rd_T34 l0 x8_1).f1) ((rd_T34 l0 x8_1).f2) ((rd_T34 l0 x8_1).f3) ((rd_T34 l0 x8_1).f4) ((rd_T34 l0 x8_1).f5) ((rd_T34 l0 x8_1).f6) ((rd_T34 l0 x8_1).f7) t145 _ A6.out).mono ?_); rintro e w9 ⟨rfl, hb⟩; refine ⟨_, rfl, ?_⟩; have n0_ := Aside0.mk (below_step (by repeat (first | (with_reducible first | exact HB.out | apply below_alloc | apply pw_below_drewN | apply below_drew1) | exact HB.out)) hb); clear HB; have HB := n0_; clear n0_; (try clear hb); (try clear hb2); (try clear hk); (try clear hi)))
            go_ret2
            exact ⟨by first | rfl | (simp [errW_none, errW_some] <;> rfl) | (simp [*, errW_none, errW_some] <;> rfl), by repeat (first | (with_reducible first | exact HB.out | apply below_alloc | apply pw_below_drewN | apply below_drew1) | exact HB.out)⟩
        · rw [if_neg c5] at H
          exact absurd H (by simp)
      · rw [if_neg c4] at H
        have c4b0 : decide (x8_1 < (l0.length : Int)) = false := decide_eq_false c4
        clear c4
        have H' := Aside0.mk H
        clear H
        go_wp2
        go_loopg [10, 11, 12, 13] k1 (fun kq v10 v11 v12 v13 w' => ∃ (x10_2 : Int) (x11_2 : ByteArray) (x12_2 : Bool) (x13_2 : Int), v10 = .int .i64 x10_2 ∧ v11 = .string x11_2 ∧ v12 = .bool x12_2 ∧ v13 = .int .i64 x13_2 ∧ Aside0 (acheronref31_Entries.l1 kq l0 a1 a2 x10_2 x11_2 x12_2 x13_2 = some (r1, r2)) ∧ Aside0 (kq ≤ k1) ∧ Aside0 (Below w.heap.size w w'))
        case atStart => exact ⟨(0), ((⟨#[]⟩ : ByteArray)), (false), (0), (by first | rfl | (simp; done) | (simp [*]; done)), (by first | rfl | (simp; done) | (simp [*]; done)), (by first | rfl | (simp; done) | (simp [*]; done)), (by first | rfl | (simp; done) | (simp [*]; done)), H', ⟨Nat.le_refl _⟩, ⟨by repeat (first | (with_reducible first | exact HB.out | apply below_alloc | apply pw_below_drewN | apply below_drew1) | exact HB.out)⟩⟩
        case round =>
          clear H'
          try clear p1
          try clear q1
          try clear hx1
          try clear c2
          try clear p2
          try clear c4
          try clear c4b0
          try clear c5
          try clear c5b0
          try clear p6
          try clear c7
          try clear c7b0
          try clear c7b1
          try clear c8
          try clear hx144_0
          try clear hx144_1
          try clear hx144_2
          try clear hx144_3
          try clear hx144_4
          try clear hx144_5
          try clear hx144_6
          try clear hx144_7
          try clear hx144_8
          try clear hx144_9
          try clear p144
          try clear p2
          try clear q144
          obtain ⟨x10_2, x11_2, x12_2, x13_2, rfl, rfl, rfl, rfl, HA, HK2, HB⟩ := hrel
          cases gk with
          | zero => exact absurd HA.out (by simp [acheronref31_Entries.l1])
          | succ k2 =>
            have H := HA.out
            clear HA
            simp only [acheronref31_Entries.l1] at H
            by_cases c10 : x13_2 < (l0.length : Int)
            · rw [if_pos c10] at H
              have c10b0 : decide (x13_2 < (l0.length : Int)) = true := decide_eq_true c10
              clear c10
              by_cases c11 : 0 ≤ x13_2
              · rw [if_pos c11] at H
                have c11b0 : decide (0 ≤ x13_2) = true := decide_eq_true c11
                clear c11
                replace H := Option.bind_eq_some_iff.mp H
                obtain ⟨t147, A120, H⟩ := H
                replace H : (if x10_2 = a1 then (if a2 ≥ 0 then (if (t147.size : Int) > a2 then (some ((⟨#[]⟩ : ByteArray), 3)) else (acheronref31_Entries.j2 k2 l0 a1 a2 x10_2 x11_2 true x13_2 t147)) else (acheronref31_Entries.j2 k2 l0 a1 a2 x10_2 x11_2 true x13_2 t147)) else (acheronref31_Entries.j2 k2 l0 a1 a2 x10_2 x11_2 x12_2 x13_2 t147)) = some (r1, r2) := H
                have A12 := Aside0.mk A120
                clear A120
                have HC13 := Aside0.mk H
                clear H
                have p146 : 0 ≤ (x13_2 : Int) := of_decide_eq_true (by first | (with_reducible assumption) | assumption)
                have q146 : x13_2 < (l0.length : Int) := of_decide_eq_true (by first | (with_reducible assumption) | assumption)
                obtain ⟨ad146, e146, hx146_0, hx146_1, hx146_2, hx146_3, hx146_4, hx146_5, hx146_6, hx146_7, hx146_8, hx146_9⟩ := at_T34 HR0.out x13_2 p146 q146
                cases e146
                replace hx146_0 := (HB.out.cell (World.block_lt_of_cell? w _ hx146_0)).trans hx146_0
                replace hx146_1 := (HB.out.cell (World.block_lt_of_cell? w _ hx146_1)).trans hx146_1
                replace hx146_2 := (HB.out.cell (World.block_lt_of_cell? w _ hx146_2)).trans hx146_2
                replace hx146_3 := (HB.out.cell (World.block_lt_of_cell? w _ hx146_3)).trans hx146_3
                replace hx146_4 := (HB.out.cell (World.block_lt_of_cell? w _ hx146_4)).trans hx146_4
                replace hx146_5 := (HB.out.cell (World.block_lt_of_cell? w _ hx146_5)).trans hx146_5
                replace hx146_6 := (HB.out.cell (World.block_lt_of_cell? w _ hx146_6)).trans hx146_6
                replace hx146_7 := (HB.out.cell (World.block_lt_of_cell? w _ hx146_7)).trans hx146_7
                replace hx146_8 := (HB.out.cell (World.block_lt_of_cell? w _ hx146_8)).trans hx146_8
                replace hx146_9 := (HB.out.cell (World.block_lt_of_cell? w _ hx146_9)).trans hx146_9
                replace p146 := eq_true p146
                replace q146 := eq_true q146
                go_upto_if 42 with (first | ((with_reducible refine gate_callee (f := 21) rfl ?_); refine goesL_ (some 39) rfl rfl Tryd.func21 (by kernel_rfl) rfl #[.agg #[.int .i64 ((rd_T34 l0 x13_2).f0.f0), .int .i64 ((rd_T34 l0 x13_2).f0.f1), .int .i64 ((rd_T34 l0 x13_2).f0.f2), .int .i64 ((rd_T34 l0 x13_2).f1), .int .i64 ((rd_T34 l0 x13_2).f2), .int .i64 ((rd_T34 l0 x13_2).f3), .string ((rd_T34 l0 x13_2).f4), .string ((rd_T34 l0 x13_2).f5), .string ((rd_T34 l0 x13_2).f6), .string ((rd_T34 l0 x13_2).f7)]] rfl (by (try simp only [List.map_toArray, List.map_cons, List.map_nil]); first | done | rfl | (simp only [List.length_drop, List.length_take]; rfl)) ?_; (with_reducible refine (acheronref31_dir.calls k2 ((rd_T34 l0 x13_2).f0.f0) ((rd_T34 l0 x13_2).f0.f1) ((rd_T34 l0 x13_2).f0.f2) ((rd_T34 l0 x13_2).f1) ((rd_T34 l0 x13_2).f2) ((rd_T34 l0 x13_2).f3) ((rd_T34 l0 x13_2).f4) ((rd_T34 l0 x13_2).f5) ((rd_T34 l0 x13_2).f6) ((rd_T34 l0 x13_2).f7) t147 _ A12.out).mono ?_); rintro e w14 ⟨rfl, hb⟩; refine ⟨_, rfl, ?_⟩; have n0_ := Aside0.mk (below_step (by repeat (first | (with_reducible first | exact HB.out | apply below_alloc | apply pw_below_drewN | apply below_drew1) | exact HB.out)) hb); clear HB; have HB := n0_; clear n0_; (try clear hb); (try clear hb2); (try clear hk); (try clear hi)))
                (try simp only [Act.put, List.setIfInBounds_toArray, List.set_cons_zero, List.set_cons_succ])
                go_cut [12] (fun v12 wc => ∃ (kq : Nat) (x12_12 : Bool), v12 = .bool x12_12 ∧ Aside0 (acheronref31_Entries.j2 kq l0 a1 a2 x10_2 x11_2 x12_12 x13_2 t147 = some (r1, r2)) ∧ Aside0 (kq ≤ k2) ∧ Aside0 (Below w.heap.size w wc))
                case first =>
                  have H := HC13.out
                  clear HC13
                  by_cases c15 : x10_2 = a1
                  · rw [if_pos c15] at H
                    have c15b0 : (x10_2 == a1) = true := beq_iff_eq.mpr c15
                    have c15b1 : (x10_2 != a1) = false := bne_eq_false_iff_eq.mpr c15
                    clear c15
                    (first | rw [c15b0] | (simp only [i64_w, i32_w]; rw [c15b0]) | skip)
                    by_cases c16 : a2 ≥ 0
                    · rw [if_pos c16] at H
                      have c16b0 : decide (0 ≤ a2) = true := decide_eq_true c16
                      clear c16
                      by_cases c17 : (t147.size : Int) > a2
                      · rw [if_pos c17] at H
                        have c17b0 : decide (a2 < (t147.size : Int)) = true := decide_eq_true c17
                        clear c17
                        simp only [Option.some.injEq, Prod.mk.injEq] at H
                        obtain ⟨rfl, rfl⟩ := H
                        go_wp2
                        go_ret2
                        exact ⟨by first | rfl | (simp [errW_none, errW_some] <;> rfl) | (simp [*, errW_none, errW_some] <;> rfl), by repeat (first | (with_reducible first | exact HB.out | apply below_alloc | apply pw_below_drewN | apply below_drew1) | exact HB.out)⟩
                      · rw [if_neg c17] at H
                        have c17b0 : decide (a2 < (t147.size : Int)) = false := decide_eq_false c17
                        clear c17
                        have H' := Aside0.mk H
                        clear H
                        go_wp2
                        go_meet
                        case rel => exact ⟨_, (true), (by first | rfl | (simp; done) | (simp [*]; done)), H', ⟨by have := HK1.out; have := HK2.out; first | omega | exact Nat.le_refl _⟩, ⟨by repeat (first | (with_reducible first | exact HB.out | apply below_alloc | apply pw_below_drewN | apply below_drew1) | exact HB.out)⟩⟩
                    · rw [if_neg c16] at H
                      have c16b0 : decide (0 ≤ a2) = false := decide_eq_false c16
                      clear c16
                      have H' := Aside0.mk H
                      clear H
                      go_wp2
                      go_meet
                      case rel => exact ⟨_, (true), (by first | rfl | (simp; done) | (simp [*]; done)), H', ⟨by have := HK1.out; have := HK2.out; first | omega | exact Nat.le_refl _⟩, ⟨by repeat (first | (with_reducible first | exact HB.out | apply below_alloc | apply pw_below_drewN | apply below_drew1) | exact HB.out)⟩⟩
                  · rw [if_neg c15] at H
                    have c15b0 : (x10_2 == a1) = false := beq_eq_false_iff_ne.mpr c15
                    have c15b1 : (x10_2 != a1) = true := bne_iff_ne.mpr c15
                    (first | rw [c15b0] | (simp only [i64_w, i32_w]; rw [c15b0]) | skip)
                    have H' := Aside0.mk H
                    clear H
                    go_wp2
                    go_meet
                    case rel => exact ⟨_, (x12_2), (by first | rfl | (simp; done) | (simp [*]; done)), H', ⟨by have := HK1.out; have := HK2.out; first | omega | exact Nat.le_refl _⟩, ⟨by repeat (first | (with_reducible first | exact HB.out | apply below_alloc | apply pw_below_drewN | apply below_drew1) | exact HB.out)⟩⟩
                case rest =>
                  clear HC13
                  try clear c1
                  try clear p1
                  try clear q1
                  try clear hx1
                  try clear c2
                  try clear p2
                  try clear c4
                  try clear c4b0
                  try clear c5
                  try clear c5b0
                  try clear p6
                  try clear c7
                  try clear c7b0
                  try clear c7b1
                  try clear c8
                  try clear c10
                  try clear c10b0
                  try clear c11
                  try clear c11b0
                  try clear p14
                  try clear q14
                  try clear hx14
                  try clear c15
                  try clear c15b0
                  try clear c15b1
                  try clear c16
                  try clear c16b0
                  try clear c17
                  try clear c17b0
                  try clear hx144_0
                  try clear hx144_1
                  try clear hx144_2
                  try clear hx144_3
                  try clear hx144_4
                  try clear hx144_5
                  try clear hx144_6
                  try clear hx144_7
                  try clear hx144_8
                  try clear hx144_9
                  try clear hx146_0
                  try clear hx146_1
                  try clear hx146_2
                  try clear hx146_3
                  try clear hx146_4
                  try clear hx146_5
                  try clear hx146_6
                  try clear hx146_7
                  try clear hx146_8
                  try clear hx146_9
                  try clear p1
                  try clear p144
                  try clear p146
                  try clear p2
                  try clear p6
                  try clear q1
                  try clear q144
                  try clear q146
                  obtain ⟨kq, x12_12, rfl, HA, HJ12, HB⟩ := hcut
                  cases kq with
                  | zero => exact absurd HA.out (by simp [acheronref31_Entries.j2])
                  | succ kj12 =>
                    have H := HA.out
                    clear HA
                    simp only [acheronref31_Entries.j2] at H
                    by_cases c18 : x12_12 = true
                    · subst c18
                      have H1 : (if (wrap64 ((x11_2.size : Int) + (t147.size : Int))) > a2 then (if a2 < 0 then (some ((⟨#[]⟩ : ByteArray), 11)) else (some (x11_2, 0))) else (if x11_2.size + t147.size ≤ 9223372036854775807 then (acheronref31_Entries.l1 kj12 l0 a1 a2 (wrap64 (x10_2 + (t147.size : Int))) (x11_2 ++ t147) true (wrap64 (x13_2 + 1))) else (none))) = some (r1, r2) := by rw [if_pos rfl] at H; exact H
                      clear H
                      have H := H1
                      clear H1
                      by_cases c19 : (wrap64 ((x11_2.size : Int) + (t147.size : Int))) > a2
                      · rw [if_pos c19] at H
                        have c19b0 : decide (a2 < (wrap64 ((x11_2.size : Int) + (t147.size : Int)))) = true := decide_eq_true c19
                        clear c19
                        by_cases c20 : a2 < 0
                        · rw [if_pos c20] at H
                          have c20b0 : decide (a2 < 0) = true := decide_eq_true c20
                          clear c20
                          simp only [Option.some.injEq, Prod.mk.injEq] at H
                          obtain ⟨rfl, rfl⟩ := H
                          go_wp2
                          go_ret2
                          exact ⟨by first | rfl | (simp [errW_none, errW_some] <;> rfl) | (simp [*, errW_none, errW_some] <;> rfl), by repeat (first | (with_reducible first | exact HB.out | apply below_alloc | apply pw_below_drewN | apply below_drew1) | exact HB.out)⟩
                        · rw [if_neg c20] at H
                          have c20b0 : decide (a2 < 0) = false := decide_eq_false c20
                          clear c20
                          simp only [Option.some.injEq, Prod.mk.injEq] at H
                          obtain ⟨rfl, rfl⟩ := H
                          go_wp2
                          go_ret2
                          exact ⟨by first | rfl | (simp [errW_none, errW_some] <;> rfl) | (simp [*, errW_none, errW_some] <;> rfl), by repeat (first | (with_reducible first | exact HB.out | apply below_alloc | apply pw_below_drewN | apply below_drew1) | exact HB.out)⟩
                      · rw [if_neg c19] at H
                        have c19b0 : decide (a2 < (wrap64 ((x11_2.size : Int) + (t147.size : Int)))) = false := decide_eq_false c19
                        clear c19
                        by_cases c21 : x11_2.size + t147.size ≤ 9223372036854775807
                        · rw [if_pos c21] at H
                          have c21b0 := eq_true c21
                          have c21b1 : decide (x11_2.size + t147.size ≤ 9223372036854775807) = true := decide_eq_true c21
                          try have c19b0x := c19b0
                          try rw [show wrap64 ((x11_2.size : Int) + (t147.size : Int)) = (x11_2.size : Int) + (t147.size : Int) by unfold wrap64; omega] at c19b0x
                          try have c19b0x := c19b0
                          try rw [show wrap64 ((x11_2.size : Int) + (t147.size : Int)) = (x11_2.size : Int) + (t147.size : Int) by unfold wrap64; omega] at c19b0x
                          try have c21b2 : (9223372036854775807 < x11_2.size + t147.size) = False := eq_false (Nat.not_lt.2 c21)
                          try have c21b3 : (9223372036854775807 < x11_2.size + t147.size) = False := eq_false (by have h_ := c21; simp only [ByteArray.size_append] at h_; omega)
                          have H' := Aside0.mk H
                          clear H
                          go_wp2
                          go_roundg kj12
                          case measure => have := HK1.out; have := HK2.out; have := HJ12.out; omega
                          case rel => exact ⟨(wrap64 (x10_2 + (t147.size : Int))), (x11_2 ++ t147), (true), (wrap64 (x13_2 + 1)), (by first | rfl | (simp; done) | (simp [*]; done)), (by first | rfl | (simp; done) | (simp [*]; done)), (by first | rfl | (simp; done) | (simp [*]; done)), (by first | rfl | (simp; done) | (simp [*]; done)), H', ⟨by have := HK1.out; have := HK2.out; have := HJ12.out; omega⟩, ⟨by repeat (first | (with_reducible first | exact HB.out | apply below_alloc | apply pw_below_drewN | apply below_drew1) | exact HB.out)⟩⟩
                        · rw [if_neg c21] at H
                          exact absurd H (by simp)
                    · replace c18 := Bool.eq_false_iff.mpr c18
                      subst c18
                      have H1 : (acheronref31_Entries.l1 kj12 l0 a1 a2 (wrap64 (x10_2 + (t147.size : Int))) x11_2 false (wrap64 (x13_2 + 1))) = some (r1, r2) := by rw [if_neg (show ¬ (false = true) by decide)] at H; exact H
                      clear H
                      have H := H1
                      clear H1
                      have H' := Aside0.mk H
                      clear H
                      go_wp2
                      go_roundg kj12
                      case measure => have := HK1.out; have := HK2.out; have := HJ12.out; omega
                      case rel => exact ⟨(wrap64 (x10_2 + (t147.size : Int))), (x11_2), (false), (wrap64 (x13_2 + 1)), (by first | rfl | (simp; done) | (simp [*]; done)), (by first | rfl | (simp; done) | (simp [*]; done)), (by first | rfl | (simp; done) | (simp [*]; done)), (by first | rfl | (simp; done) | (simp [*]; done)), H', ⟨by have := HK1.out; have := HK2.out; have := HJ12.out; omega⟩, ⟨by repeat (first | (with_reducible first | exact HB.out | apply below_alloc | apply pw_below_drewN | apply below_drew1) | exact HB.out)⟩⟩
              · rw [if_neg c11] at H
                exact absurd H (by simp)
            · rw [if_neg c10] at H
              have c10b0 : decide (x13_2 < (l0.length : Int)) = false := decide_eq_false c10
              clear c10
              by_cases c22 : a2 < 0
              · rw [if_pos c22] at H
                have c22b0 : decide (a2 < 0) = true := decide_eq_true c22
                clear c22
                simp only [Option.some.injEq, Prod.mk.injEq] at H
                obtain ⟨rfl, rfl⟩ := H
                go_wp2
                go_ret2
                exact ⟨by first | rfl | (simp [errW_none, errW_some] <;> rfl) | (simp [*, errW_none, errW_some] <;> rfl), by repeat (first | (with_reducible first | exact HB.out | apply below_alloc | apply pw_below_drewN | apply below_drew1) | exact HB.out)⟩
              · rw [if_neg c22] at H
                have c22b0 : decide (a2 < 0) = false := decide_eq_false c22
                clear c22
                by_cases c23 : x12_2 = true
                · subst c23
                  have H1 : (some (x11_2, 0)) = some (r1, r2) := by rw [if_pos rfl] at H; exact H
                  clear H
                  have H := H1
                  clear H1
                  simp only [Option.some.injEq, Prod.mk.injEq] at H
                  obtain ⟨rfl, rfl⟩ := H
                  go_wp2
                  go_ret2
                  exact ⟨by first | rfl | (simp [errW_none, errW_some] <;> rfl) | (simp [*, errW_none, errW_some] <;> rfl), by repeat (first | (with_reducible first | exact HB.out | apply below_alloc | apply pw_below_drewN | apply below_drew1) | exact HB.out)⟩
                · replace c23 := Bool.eq_false_iff.mpr c23
                  subst c23
                  have H1 : (if x10_2 = a1 then (some (x11_2, 0)) else (some ((⟨#[]⟩ : ByteArray), 11))) = some (r1, r2) := by rw [if_neg (show ¬ (false = true) by decide)] at H; exact H
                  clear H
                  have H := H1
                  clear H1
                  by_cases c24 : x10_2 = a1
                  · rw [if_pos c24] at H
                    have c24b0 : (x10_2 == a1) = true := beq_iff_eq.mpr c24
                    have c24b1 : (x10_2 != a1) = false := bne_eq_false_iff_eq.mpr c24
                    clear c24
                    simp only [Option.some.injEq, Prod.mk.injEq] at H
                    obtain ⟨rfl, rfl⟩ := H
                    go_wp2
                    go_ret2
                    exact ⟨by first | rfl | (simp [errW_none, errW_some] <;> rfl) | (simp [*, errW_none, errW_some] <;> rfl), by repeat (first | (with_reducible first | exact HB.out | apply below_alloc | apply pw_below_drewN | apply below_drew1) | exact HB.out)⟩
                  · rw [if_neg c24] at H
                    have c24b0 : (x10_2 == a1) = false := beq_eq_false_iff_ne.mpr c24
                    have c24b1 : (x10_2 != a1) = true := bne_iff_ne.mpr c24
                    simp only [Option.some.injEq, Prod.mk.injEq] at H
                    obtain ⟨rfl, rfl⟩ := H
                    go_wp2
                    go_ret2
                    exact ⟨by first | rfl | (simp [errW_none, errW_some] <;> rfl) | (simp [*, errW_none, errW_some] <;> rfl), by repeat (first | (with_reducible first | exact HB.out | apply below_alloc | apply pw_below_drewN | apply below_drew1) | exact HB.out)⟩

end Go.Proofs.YtflofpnagfoeeaaDoor.Q
