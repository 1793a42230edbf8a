-- Written by a program of this session out of Lean's print of the translation (wip/myprint.py).
import Derived.Test.YtflofpnagfoeeaaDoorQ0
namespace Go.Proofs.YtflofpnagfoeeaaDoor.Q
open Go.RowKit Go.Proofs.YtflofpnagfoeeaaDoorW.PrintWords Go.Proofs.YtflofpnagfoeeaaDoorW.PrintLast Go.Proofs.YtflofpnagfoeeaaDoorW.PrintMore
attribute [local go_sem] max2_int min2_int max_two min_two max_three min_three max_four min_four   -- for this text's walks alone
set_option linter.unusedVariables false
set_option linter.unusedSimpArgs false

/-! ### styx_Entries: function 7 -/
mutual
def styx_Entries.l0 : Nat → Int → Int → List ByteArray → List (S34) → Int → Int → Option (ByteArray × Int)
  | 0, _, _, _, _, _, _ => none
  | k + 1, x1, x2, x8, x16, x17, x18 => if x18 < x17 then (if 0 ≤ x18 then (if x18 < (x16.length : Int) then ((styx_EncodeDir.f ((rd_T34 x16 x18).f0.f0) ((rd_T34 x16 x18).f0.f1) ((rd_T34 x16 x18).f0.f2) ((rd_T34 x16 x18).f1) ((rd_T34 x16 x18).f2) ((rd_T34 x16 x18).f3) ((rd_T34 x16 x18).f4) ((rd_T34 x16 x18).f5) ((rd_T34 x16 x18).f6) ((rd_T34 x16 x18).f7)).bind fun bt103 => (if bt103.2 = 0 then (if x8.length < 8796093022208 then (styx_Entries.l0 k x1 x2 (x8 ++ [bt103.1]) x16 x17 (wrap64 (x18 + 1))) else (none)) else (some ((⟨#[]⟩ : ByteArray), bt103.2)))) else (none)) else (none)) else (styx_Entries.l1 k x1 x2 x8)
def styx_Entries.j2 : Nat → Int → Int → List ByteArray → Option (ByteArray × Int)
  | 0, _, _, _ => none
  | k + 1, x1, x2, x8 => if x2 < 0 then (styx_Entries.j3 k x2 x8 true) else (styx_Entries.j3 k x2 x8 (x1 != 0))
def styx_Entries.j4 : Nat → Int → List ByteArray → Option (ByteArray × Int)
  | 0, _, _ => none
  | k + 1, x2, x8 => styx_Entries.l2 k x2 (⟨#[]⟩ : ByteArray) x8 (x8.length : Int) 0
def styx_Entries.l2 : Nat → Int → ByteArray → List ByteArray → Int → Int → Option (ByteArray × Int)
  | 0, _, _, _, _, _ => none
  | k + 1, x2, x13, x69, x70, x71 => if x71 < x70 then (if 0 ≤ x71 then (if x71 < (x69.length : Int) then (if (wrap64 ((x13.size : Int) + ((rdOf ByteArray.empty x69 x71).size : Int))) > x2 then (some (x13, 0)) else (if x13.size + (rdOf ByteArray.empty x69 x71).size ≤ 9223372036854775807 then (styx_Entries.l2 k x2 (x13 ++ (rdOf ByteArray.empty x69 x71)) x69 x70 (wrap64 (x71 + 1))) else (none))) else (none)) else (none)) else (some (x13, 0))
def styx_Entries.j3 : Nat → Int → List ByteArray → Bool → Option (ByteArray × Int)
  | 0, _, _, _ => none
  | k + 1, x2, x8, x50 => if x50 = true then (some ((⟨#[]⟩ : ByteArray), 11)) else (if (x8.length : Int) > 0 then (if 0 < (x8.length : Int) then (if ((rdOf ByteArray.empty x8 0).size : Int) > x2 then (some ((⟨#[]⟩ : ByteArray), 3)) else (styx_Entries.j4 k x2 x8)) else (none)) else (styx_Entries.j4 k x2 x8))
def styx_Entries.l1 : Nat → Int → Int → List ByteArray → Option (ByteArray × Int)
  | 0, _, _, _ => none
  | k + 1, x1, x2, x8 => if x1 > 0 then (if (x8.length : Int) > 0 then (if 0 < (x8.length : Int) then (if 1 ≤ (x8.length : Int) then (styx_Entries.l1 k (wrap64 (x1 - ((rdOf ByteArray.empty x8 0).size : Int))) x2 (x8.drop (1 : Int).toNat)) else (none)) else (none)) else (styx_Entries.j2 k x1 x2 x8)) else (styx_Entries.j2 k x1 x2 x8)
end
def styx_Entries.f (k : Nat) (l0 : List (S34)) (a1 : Int) (a2 : Int) : Option (ByteArray × Int) := styx_Entries.l0 k a1 a2 ([] : List ByteArray) l0 (l0.length : Int) 0
theorem styx_Entries.mono_l : ∀ k, (∀ y0 y1 y2 y3 y4 y5, LeO (styx_Entries.l0 k y0 y1 y2 y3 y4 y5) (styx_Entries.l0 (k + 1) y0 y1 y2 y3 y4 y5)) ∧ (∀ y0 y1 y2, LeO (styx_Entries.j2 k y0 y1 y2) (styx_Entries.j2 (k + 1) y0 y1 y2)) ∧ (∀ y0 y1, LeO (styx_Entries.j4 k y0 y1) (styx_Entries.j4 (k + 1) y0 y1)) ∧ (∀ y0 y1 y2 y3 y4, LeO (styx_Entries.l2 k y0 y1 y2 y3 y4) (styx_Entries.l2 (k + 1) y0 y1 y2 y3 y4)) ∧ (∀ y0 y1 y2, LeO (styx_Entries.j3 k y0 y1 y2) (styx_Entries.j3 (k + 1) y0 y1 y2)) ∧ (∀ y0 y1 y2, LeO (styx_Entries.l1 k y0 y1 y2) (styx_Entries.l1 (k + 1) y0 y1 y2))
  | 0 => ⟨fun _ _ _ _ _ _ r h => by simp [styx_Entries.l0] at h, fun _ _ _ r h => by simp [styx_Entries.j2] at h, fun _ _ r h => by simp [styx_Entries.j4] at h, fun _ _ _ _ _ r h => by simp [styx_Entries.l2] at h, fun _ _ _ r h => by simp [styx_Entries.j3] at h, fun _ _ _ r h => by simp [styx_Entries.l1] at h⟩
  | k + 1 => by
    obtain ⟨ih0, ih1, ih2, ih3, ih4, ih5⟩ := styx_Entries.mono_l k
    refine ⟨?_, ?_, ?_, ?_, ?_, ?_⟩
    · intro y0 y1 y2 y3 y4 y5
      unfold styx_Entries.l0
      repeat' first
      | (with_reducible exact ih0 _ _ _ _ _ _)
      | (with_reducible exact ih1 _ _ _)
      | (with_reducible exact ih2 _ _)
      | (with_reducible exact ih3 _ _ _ _ _)
      | (with_reducible exact ih4 _ _ _)
      | (with_reducible exact ih5 _ _ _)
      | (with_reducible exact LeO.refl _)
      | (with_reducible exact LeO.none _)
      | (with_reducible refine LeO.ite ?_ ?_)
      | (with_reducible refine LeO.bind ?_ (fun _ => ?_))
      | exact ih0 _ _ _ _ _ _
      | exact ih1 _ _ _
      | exact ih2 _ _
      | exact ih3 _ _ _ _ _
      | exact ih4 _ _ _
      | exact ih5 _ _ _
      | exact LeO.none _
      | refine LeO.ite ?_ ?_
      | refine LeO.bind ?_ (fun _ => ?_)
    · intro y0 y1 y2
      unfold styx_Entries.j2
      repeat' first
      | (with_reducible exact ih0 _ _ _ _ _ _)
      | (with_reducible exact ih1 _ _ _)
      | (with_reducible exact ih2 _ _)
      | (with_reducible exact ih3 _ _ _ _ _)
      | (with_reducible exact ih4 _ _ _)
      | (with_reducible exact ih5 _ _ _)
      | (with_reducible exact LeO.refl _)
      | (with_reducible exact LeO.none _)
      | (with_reducible refine LeO.ite ?_ ?_)
      | (with_reducible refine LeO.bind ?_ (fun _ => ?_))
      | exact ih0 _ _ _ _ _ _
      | exact ih1 _ _ _
      | exact ih2 _ _
      | exact ih3 _ _ _ _ _
      | exact ih4 _ _ _
      | exact ih5 _ _ _
      | exact LeO.none _
      | refine LeO.ite ?_ ?_
      | refine LeO.bind ?_ (fun _ => ?_)
    · intro y0 y1
      unfold styx_Entries.j4
      repeat' first
      | (with_reducible exact ih0 _ _ _ _ _ _)
      | (with_reducible exact ih1 _ _ _)
      | (with_reducible exact ih2 _ _)
      | (with_reducible exact ih3 _ _ _ _ _)
      | (with_reducible exact ih4 _ _ _)
      | (with_reducible exact ih5 _ _ _)
      | (with_reducible exact LeO.refl _)
      | (with_reducible exact LeO.none _)
      | (with_reducible refine LeO.ite ?_ ?_)
      | (with_reducible refine LeO.bind ?_ (fun _ => ?_))
      | exact ih0 _ _ _ _ _ _
      | exact ih1 _ _ _
      | exact ih2 _ _
      | exact ih3 _ _ _ _ _
      | exact ih4 _ _ _
      | exact ih5 _ _ _
      | exact LeO.none _
      | refine LeO.ite ?_ ?_
      | refine LeO.bind ?_ (fun _ => ?_)
    · intro y0 y1 y2 y3 y4
      unfold styx_Entries.l2
      repeat' first
      | (with_reducible exact ih0 _ _ _ _ _ _)
      | (with_reducible exact ih1 _ _ _)
      | (with_reducible exact ih2 _ _)
      | (with_reducible exact ih3 _ _ _ _ _)
      | (with_reducible exact ih4 _ _ _)
      | (with_reducible exact ih5 _ _ _)
      | (with_reducible exact LeO.refl _)
      | (with_reducible exact LeO.none _)
      | (with_reducible refine LeO.ite ?_ ?_)
      | (with_reducible refine LeO.bind ?_ (fun _ => ?_))
      | exact ih0 _ _ _ _ _ _
      | exact ih1 _ _ _
      | exact ih2 _ _
      | exact ih3 _ _ _ _ _
      | exact ih4 _ _ _
      | exact ih5 _ _ _
      | exact LeO.none _
      | refine LeO.ite ?_ ?_
      | refine LeO.bind ?_ (fun _ => ?_)
    · intro y0 y1 y2
      unfold styx_Entries.j3
      repeat' first
      | (with_reducible exact ih0 _ _ _ _ _ _)
      | (with_reducible exact ih1 _ _ _)
      | (with_reducible exact ih2 _ _)
      | (with_reducible exact ih3 _ _ _ _ _)
      | (with_reducible exact ih4 _ _ _)
      | (with_reducible exact ih5 _ _ _)
      | (with_reducible exact LeO.refl _)
      | (with_reducible exact LeO.none _)
      | (with_reducible refine LeO.ite ?_ ?_)
      | (with_reducible refine LeO.bind ?_ (fun _ => ?_))
      | exact ih0 _ _ _ _ _ _
      | exact ih1 _ _ _
      | exact ih2 _ _
      | exact ih3 _ _ _ _ _
      | exact ih4 _ _ _
      | exact ih5 _ _ _
      | exact LeO.none _
      | refine LeO.ite ?_ ?_
      | refine LeO.bind ?_ (fun _ => ?_)
    · intro y0 y1 y2
      unfold styx_Entries.l1
      repeat' first
      | (with_reducible exact ih0 _ _ _ _ _ _)
      | (with_reducible exact ih1 _ _ _)
      | (with_reducible exact ih2 _ _)
      | (with_reducible exact ih3 _ _ _ _ _)
      | (with_reducible exact ih4 _ _ _)
      | (with_reducible exact ih5 _ _ _)
      | (with_reducible exact LeO.refl _)
      | (with_reducible exact LeO.none _)
      | (with_reducible refine LeO.ite ?_ ?_)
      | (with_reducible refine LeO.bind ?_ (fun _ => ?_))
      | exact ih0 _ _ _ _ _ _
      | exact ih1 _ _ _
      | exact ih2 _ _
      | exact ih3 _ _ _ _ _
      | exact ih4 _ _ _
      | exact ih5 _ _ _
      | exact LeO.none _
      | refine LeO.ite ?_ ?_
      | refine LeO.bind ?_ (fun _ => ?_)
theorem styx_Entries.mono : ∀ a0 a1 a2 k, LeO (styx_Entries.f k a0 a1 a2) (styx_Entries.f (k + 1) a0 a1 a2) := by
  intro a0 a1 a2 k
  obtain ⟨ih0, ih1, ih2, ih3, ih4, ih5⟩ := styx_Entries.mono_l k
  unfold styx_Entries.f
  repeat' first
      | (with_reducible exact ih0 _ _ _ _ _ _)
      | (with_reducible exact ih1 _ _ _)
      | (with_reducible exact ih2 _ _)
      | (with_reducible exact ih3 _ _ _ _ _)
      | (with_reducible exact ih4 _ _ _)
      | (with_reducible exact ih5 _ _ _)
      | (with_reducible exact LeO.refl _)
      | (with_reducible exact LeO.none _)
      | (with_reducible refine LeO.ite ?_ ?_)
      | (with_reducible refine LeO.bind ?_ (fun _ => ?_))
      | exact ih0 _ _ _ _ _ _
      | exact ih1 _ _ _
      | exact ih2 _ _
      | exact ih3 _ _ _ _ _
      | exact ih4 _ _ _
      | exact ih5 _ _ _
      | exact LeO.none _
      | refine LeO.ite ?_ ?_
      | refine LeO.bind ?_ (fun _ => ?_)
set_option maxHeartbeats 8000000 in
set_option maxRecDepth 100000 in
theorem styx_Entries.calls (k : Nat) (A0 : Option Addr) (c0 : Nat) (l0 : List (S34)) (a1 : Int) (a2 : Int) (r1 : ByteArray) (r2 : Int) (w : World) (hr0 : Kd.C k34 w A0 l0.length l0) (hc0 : l0.length ≤ c0) (h : styx_Entries.f k l0 a1 a2 = some (r1, r2)) :
    Calls Tryd.prog 7 #[.slice A0 l0.length c0, .int .i64 a1, .int .i64 a2] w fun e w' => e = .returned (.tuple #[.string r1, .int .i64 r2]) ∧ Below w.heap.size w w' := by
  have hu34 := Tryd.underlying34
  have HR0 := Aside0.mk hr0
  have HC0 := Aside0.mk hc0
  clear hr0 hc0
  have HB := Aside0.mk (Below.refl w.heap.size w)
  have H : (styx_Entries.l0 k a1 a2 ([] : List ByteArray) l0 (l0.length : Int) 0) = some (r1, r2) := h
  clear h
  have H' := Aside0.mk H
  clear H
  go_enter Tryd.func7, Tryd.ntmps7
  go_wp2
  go_loopg [8, 18] k (fun kq v8 v18 w' => ∃ (x8_1 : List ByteArray) (x18_1 : Int), v18 = .int .i64 x18_1 ∧ Aside0 (styx_Entries.l0 kq a1 a2 x8_1 l0 (l0.length : Int) x18_1 = some (r1, r2)) ∧ Aside0 (kq ≤ k) ∧ Aside0 (Kd.Q Kd.string 9 w' w.heap.size (fun _ => True) v8 x8_1) ∧ Aside0 (Below w.heap.size w w'))
  case atStart => exact ⟨(([] : List ByteArray)), (0), (by first | rfl | (simp; done) | (simp [*]; done)), H', ⟨Nat.le_refl _⟩, ⟨Kd.Q_of_R (by first | exact Kd.R_nil _ _ _ _ _ | exact Kd.N_nil _ _ _ _ _ | exact Kd.V_nil _ _ _ _ _ | exact Kd.Q_nil _ _ _ _ _ | exact Kd.S_nil _ _ _ _ _)⟩, ⟨by repeat (first | (with_reducible first | exact HB.out | apply below_alloc | apply pw_below_drewN | apply below_drew1) | exact HB.out)⟩⟩
  case round =>
    clear H'
    try clear p2
    obtain ⟨x8_1, x18_1, rfl, HA, HK1, HO_8, HB⟩ := hrel
    cases gk with
    | zero => exact absurd HA.out (by simp [styx_Entries.l0])
    | succ k1 =>
      have H := HA.out
      clear HA
      simp only [styx_Entries.l0] at H
      by_cases c4 : x18_1 < (l0.length : Int)
      · rw [if_pos c4] at H
        have c4b0 : decide (x18_1 < (l0.length : Int)) = true := decide_eq_true c4
        clear c4
        by_cases c5 : 0 ≤ x18_1
        · rw [if_pos c5] at H
          have c5b0 : decide (0 ≤ x18_1) = true := decide_eq_true c5
          clear c5
          by_cases c6 : x18_1 < (l0.length : Int)
          · rw [if_pos c6] at H
            have c6b0 : decide (x18_1 < (l0.length : Int)) = true := decide_eq_true c6
            clear c6
            replace H := Option.bind_eq_some_iff.mp H
            obtain ⟨⟨t103, t104⟩, A70, H⟩ := H
            replace H : (if t104 = 0 then (if x8_1.length < 8796093022208 then (styx_Entries.l0 k1 a1 a2 (x8_1 ++ [t103]) l0 (l0.length : Int) (wrap64 (x18_1 + 1))) else (none)) else (some ((⟨#[]⟩ : ByteArray), t104))) = some (r1, r2) := H
            have A7 := Aside0.mk A70
            clear A70
            by_cases c8 : t104 = 0
            · rw [if_pos c8] at H
              have c8b0 : (t104 == 0) = true := beq_iff_eq.mpr c8
              have c8b1 : (t104 != 0) = false := bne_eq_false_iff_eq.mpr c8
              clear c8
              by_cases c9 : x8_1.length < 8796093022208
              · rw [if_pos c9] at H
                have LMc9 := Aside0.mk c9
                clear c9
                obtain ⟨y105, hy105⟩ : ∃ y_ : List ByteArray, y_ = (x8_1 ++ [t103]) := ⟨_, rfl⟩
                replace H : (styx_Entries.l0 k1 a1 a2 y105 l0 (l0.length : Int) (wrap64 (x18_1 + 1))) = some (r1, r2) := by first | (rw [hy105]; with_reducible exact H) | (have H2_ := (Option.bind_some _ _).symm.trans H; rw [hy105]; with_reducible exact H2_) | (have H2_ := (Option.bind_some _ _).symm.trans H; with_reducible exact H2_) | with_reducible exact H | (rw [hy105]; exact H) | exact H
                have Ny105 := Aside0.mk hy105
                clear hy105
                have H' := Aside0.mk H
                clear H
                have p101 : 0 ≤ (x18_1 : Int) := of_decide_eq_true (by first | (with_reducible assumption) | assumption)
                have q101 : x18_1 < (l0.length : Int) := of_decide_eq_true (by first | (with_reducible assumption) | assumption)
                obtain ⟨ad101, e101, hx101_0, hx101_1, hx101_2, hx101_3, hx101_4, hx101_5, hx101_6, hx101_7, hx101_8, hx101_9⟩ := at_T34 HR0.out x18_1 p101 q101
                cases e101
                replace hx101_0 := (HB.out.cell (World.block_lt_of_cell? w _ hx101_0)).trans hx101_0
                replace hx101_1 := (HB.out.cell (World.block_lt_of_cell? w _ hx101_1)).trans hx101_1
                replace hx101_2 := (HB.out.cell (World.block_lt_of_cell? w _ hx101_2)).trans hx101_2
                replace hx101_3 := (HB.out.cell (World.block_lt_of_cell? w _ hx101_3)).trans hx101_3
                replace hx101_4 := (HB.out.cell (World.block_lt_of_cell? w _ hx101_4)).trans hx101_4
                replace hx101_5 := (HB.out.cell (World.block_lt_of_cell? w _ hx101_5)).trans hx101_5
                replace hx101_6 := (HB.out.cell (World.block_lt_of_cell? w _ hx101_6)).trans hx101_6
                replace hx101_7 := (HB.out.cell (World.block_lt_of_cell? w _ hx101_7)).trans hx101_7
                replace hx101_8 := (HB.out.cell (World.block_lt_of_cell? w _ hx101_8)).trans hx101_8
                replace hx101_9 := (HB.out.cell (World.block_lt_of_cell? w _ hx101_9)).trans hx101_9
                replace p101 := eq_true p101
                replace q101 := eq_true q101
                go_wp2_with (first | ((with_reducible refine gate_dst (N := 10) rfl ?_); (try (refine gate_guard (by rfl) ?_; dsimp only)); refine box_event ?hg (N := 10) ?hd (cs := #[.int .i64 0, .int .i64 0, .int .i64 0, .int .i64 0, .int .i64 0, .int .i64 0, .string (⟨#[]⟩ : ByteArray), .string (⟨#[]⟩ : ByteArray), .string (⟨#[]⟩ : ByteArray), .string (⟨#[]⟩ : ByteArray)]) (t := 34) ?hr ?_; (case hd => rfl); (case hg => rfl); (case hr => first | (go_simp; done) | (go_simp; rfl)); intro gb102 hg w10 hbox hb; have n0_ := Aside0.mk (Kd.Q_below (by (with_reducible repeat (first | apply Kd.Q_alloc | apply Kd.Q_drewN | apply Kd.Q_drew)); exact HO_8.out) hb); have n1_ := Aside0.mk (below_step (by repeat (first | (with_reducible first | exact HB.out | apply below_alloc | apply pw_below_drewN | apply below_drew1) | exact HB.out)) hb); have n2_ := Aside0.mk (hbox); have n3_ := Aside0.mk ((by rw [hg]; exact (below_size (by repeat (first | (with_reducible first | exact HB.out | apply below_alloc | apply pw_below_drewN | apply below_drew1) | exact HB.out))) : w.heap.size ≤ gb102)); have n4_ := Aside0.mk ((by rw [hg]; exact (below_size (by repeat (first | (with_reducible first | exact HB.out | apply below_alloc | apply pw_below_drewN | apply below_drew1) | exact HB.out))) : w.heap.size ≤ gb102)); clear HO_8; clear HB; have HO_8 := n0_; have HB := n1_; have BK102 := n2_; have GW102 := n3_; have GE102 := n4_; clear n0_ n1_ n2_ n3_ n4_; clear hb hbox hg; have hcz11_0 : w10.cell? ⟨gb102, 0, none⟩ = some (.int .i64 0) := (blk_cell BK102.out 0).trans rfl; have hcz11_1 : w10.cell? ⟨gb102, 1, none⟩ = some (.int .i64 0) := (blk_cell BK102.out 1).trans rfl; have hcz11_2 : w10.cell? ⟨gb102, 2, none⟩ = some (.int .i64 0) := (blk_cell BK102.out 2).trans rfl; have hcz11_3 : w10.cell? ⟨gb102, 3, none⟩ = some (.int .i64 0) := (blk_cell BK102.out 3).trans rfl; have hcz11_4 : w10.cell? ⟨gb102, 4, none⟩ = some (.int .i64 0) := (blk_cell BK102.out 4).trans rfl; have hcz11_5 : w10.cell? ⟨gb102, 5, none⟩ = some (.int .i64 0) := (blk_cell BK102.out 5).trans rfl; have hcz11_6 : w10.cell? ⟨gb102, 6, none⟩ = some (.string (⟨#[]⟩ : ByteArray)) := (blk_cell BK102.out 6).trans rfl; have hcz11_7 : w10.cell? ⟨gb102, 7, none⟩ = some (.string (⟨#[]⟩ : ByteArray)) := (blk_cell BK102.out 7).trans rfl; have hcz11_8 : w10.cell? ⟨gb102, 8, none⟩ = some (.string (⟨#[]⟩ : ByteArray)) := (blk_cell BK102.out 8).trans rfl; have hcz11_9 : w10.cell? ⟨gb102, 9, none⟩ = some (.string (⟨#[]⟩ : ByteArray)) := (blk_cell BK102.out 9).trans rfl; have hfz11_0 := blk_frozen BK102.out 0; have hfz11_1 := blk_frozen BK102.out 1; have hfz11_2 := blk_frozen BK102.out 2; have hfz11_3 := blk_frozen BK102.out 3; have hfz11_4 := blk_frozen BK102.out 4; have hfz11_5 := blk_frozen BK102.out 5; have hfz11_6 := blk_frozen BK102.out 6; have hfz11_7 := blk_frozen BK102.out 7; have hfz11_8 := blk_frozen BK102.out 8; have hfz11_9 := blk_frozen BK102.out 9) | ((with_reducible refine gate_callee (f := 19) rfl ?_); refine goesL_ (some 24) rfl rfl Tryd.func19 (by kernel_rfl) rfl #[.agg #[.int .i64 ((rd_T34 l0 x18_1).f0.f0), .int .i64 ((rd_T34 l0 x18_1).f0.f1), .int .i64 ((rd_T34 l0 x18_1).f0.f2), .int .i64 ((rd_T34 l0 x18_1).f1), .int .i64 ((rd_T34 l0 x18_1).f2), .int .i64 ((rd_T34 l0 x18_1).f3), .string ((rd_T34 l0 x18_1).f4), .string ((rd_T34 l0 x18_1).f5), .string ((rd_T34 l0 x18_1).f6), .string ((rd_T34 l0 x18_1).f7)]] rfl (by (try simp only [List.map_toArray, List.map_cons, List.map_nil]); first | done | rfl | (simp only [List.length_drop, List.length_take]; rfl)) ?_; (with_reducible refine (styx_EncodeDir.calls ((rd_T34 l0 x18_1).f0.f0) ((rd_T34 l0 x18_1).f0.f1) ((rd_T34 l0 x18_1).f0.f2) ((rd_T34 l0 x18_1).f1) ((rd_T34 l0 x18_1).f2) ((rd_T34 l0 x18_1).f3) ((rd_T34 l0 x18_1).f4) ((rd_T34 l0 x18_1).f5) ((rd_T34 l0 x18_1).f6) ((rd_T34 l0 x18_1).f7) t103 t104 _ A7.out).mono ?_); rintro e w12 ⟨rfl, hb⟩; refine ⟨_, rfl, ?_⟩; have n0_ := Aside0.mk (Kd.Q_below (by (with_reducible repeat (first | apply Kd.Q_alloc | apply Kd.Q_drewN | apply Kd.Q_drew)); exact (Kd.Q_mono (Kd.Q_far (p := ⟨gb102, 9, none⟩) (Kd.Q_far (p := ⟨gb102, 8, none⟩) (Kd.Q_far (p := ⟨gb102, 7, none⟩) (Kd.Q_far (p := ⟨gb102, 6, none⟩) (Kd.Q_far (p := ⟨gb102, 5, none⟩) (Kd.Q_far (p := ⟨gb102, 4, none⟩) (Kd.Q_far (p := ⟨gb102, 3, none⟩) (Kd.Q_far (p := ⟨gb102, 2, none⟩) (Kd.Q_far (p := ⟨gb102, 1, none⟩) (Kd.Q_far (p := ⟨gb102, 0, none⟩) (Kd.Q_types HO_8.out BK102.out (by decide)) (fun _ hk => hk.2) (.int .i64 ((rd_T34 l0 x18_1).f0.f0))) (fun _ hk => hk.2) (.int .i64 ((rd_T34 l0 x18_1).f0.f1))) (fun _ hk => hk.2) (.int .i64 ((rd_T34 l0 x18_1).f0.f2))) (fun _ hk => hk.2) (.int .i64 ((rd_T34 l0 x18_1).f1))) (fun _ hk => hk.2) (.int .i64 ((rd_T34 l0 x18_1).f2))) (fun _ hk => hk.2) (.int .i64 ((rd_T34 l0 x18_1).f3))) (fun _ hk => hk.2) (.string ((rd_T34 l0 x18_1).f4))) (fun _ hk => hk.2) (.string ((rd_T34 l0 x18_1).f5))) (fun _ hk => hk.2) (.string ((rd_T34 l0 x18_1).f6))) (fun _ hk => hk.2) (.string ((rd_T34 l0 x18_1).f7))) (fun _ h_ => h_.1))) hb); have n1_ := Aside0.mk (blk_below (g := gb102) (o := .cells #[.int .i64 ((rd_T34 l0 x18_1).f0.f0), .int .i64 ((rd_T34 l0 x18_1).f0.f1), .int .i64 ((rd_T34 l0 x18_1).f0.f2), .int .i64 ((rd_T34 l0 x18_1).f1), .int .i64 ((rd_T34 l0 x18_1).f2), .int .i64 ((rd_T34 l0 x18_1).f3), .string ((rd_T34 l0 x18_1).f4), .string ((rd_T34 l0 x18_1).f5), .string ((rd_T34 l0 x18_1).f6), .string ((rd_T34 l0 x18_1).f7)] 34 (0, 0)) (by (with_reducible repeat (first | refine blk_drewN ?_ _ | refine blk_drew ?_ | refine blk_alloc ?_ _)); refine blk_put (cs := #[.int .i64 ((rd_T34 l0 x18_1).f0.f0), .int .i64 ((rd_T34 l0 x18_1).f0.f1), .int .i64 ((rd_T34 l0 x18_1).f0.f2), .int .i64 ((rd_T34 l0 x18_1).f1), .int .i64 ((rd_T34 l0 x18_1).f2), .int .i64 ((rd_T34 l0 x18_1).f3), .string ((rd_T34 l0 x18_1).f4), .string ((rd_T34 l0 x18_1).f5), .string ((rd_T34 l0 x18_1).f6), .string (⟨#[]⟩ : ByteArray)]) ?_ 9 _ rfl; (with_reducible repeat (first | refine blk_drewN ?_ _ | refine blk_drew ?_ | refine blk_alloc ?_ _)); refine blk_put (cs := #[.int .i64 ((rd_T34 l0 x18_1).f0.f0), .int .i64 ((rd_T34 l0 x18_1).f0.f1), .int .i64 ((rd_T34 l0 x18_1).f0.f2), .int .i64 ((rd_T34 l0 x18_1).f1), .int .i64 ((rd_T34 l0 x18_1).f2), .int .i64 ((rd_T34 l0 x18_1).f3), .string ((rd_T34 l0 x18_1).f4), .string ((rd_T34 l0 x18_1).f5), .string (⟨#[]⟩ : ByteArray), .string (⟨#[]⟩ : ByteArray)]) ?_ 8 _ rfl; (with_reducible repeat (first | refine blk_drewN ?_ _ | refine blk_drew ?_ | refine blk_alloc ?_ _)); refine blk_put (cs := #[.int .i64 ((rd_T34 l0 x18_1).f0.f0), .int .i64 ((rd_T34 l0 x18_1).f0.f1), .int .i64 ((rd_T34 l0 x18_1).f0.f2), .int .i64 ((rd_T34 l0 x18_1).f1), .int .i64 ((rd_T34 l0 x18_1).f2), .int .i64 ((rd_T34 l0 x18_1).f3), .string ((rd_T34 l0 x18_1).f4), .string (⟨#[]⟩ : ByteArray), .string (⟨#[]⟩ : ByteArray), .string (⟨#[]⟩ : ByteArray)]) ?_ 7 _ rfl; (with_reducible repeat (first | refine blk_drewN ?_ _ | refine blk_drew ?_ | refine blk_alloc ?_ _)); refine blk_put (cs := #[.int .i64 ((rd_T34 l0 x18_1).f0.f0), .int .i64 ((rd_T34 l0 x18_1).f0.f1), .int .i64 ((rd_T34 l0 x18_1).f0.f2), .int .i64 ((rd_T34 l0 x18_1).f1), .int .i64 ((rd_T34 l0 x18_1).f2), .int .i64 ((rd_T34 l0 x18_1).f3), .string (⟨#[]⟩ : ByteArray), .string (⟨#[]⟩ : ByteArray), .string (⟨#[]⟩ : ByteArray), .string (⟨#[]⟩ : ByteArray)]) ?_ 6 _ rfl; (with_reducible repeat (first | refine blk_drewN ?_ _ | refine blk_drew ?_ | refine blk_alloc ?_ _)); refine blk_put (cs := #[.int .i64 ((rd_T34 l0 x18_1).f0.f0), .int .i64 ((rd_T34 l0 x18_1).f0.f1), .int .i64 ((rd_T34 l0 x18_1).f0.f2), .int .i64 ((rd_T34 l0 x18_1).f1), .int .i64 ((rd_T34 l0 x18_1).f2), .int .i64 0, .string (⟨#[]⟩ : ByteArray), .string (⟨#[]⟩ : ByteArray), .string (⟨#[]⟩ : ByteArray), .string (⟨#[]⟩ : ByteArray)]) ?_ 5 _ rfl; (with_reducible repeat (first | refine blk_drewN ?_ _ | refine blk_drew ?_ | refine blk_alloc ?_ _)); refine blk_put (cs := #[.int .i64 ((rd_T34 l0 x18_1).f0.f0), .int .i64 ((rd_T34 l0 x18_1).f0.f1), .int .i64 ((rd_T34 l0 x18_1).f0.f2), .int .i64 ((rd_T34 l0 x18_1).f1), .int .i64 0, .int .i64 0, .string (⟨#[]⟩ : ByteArray), .string (⟨#[]⟩ : ByteArray), .string (⟨#[]⟩ : ByteArray), .string (⟨#[]⟩ : ByteArray)]) ?_ 4 _ rfl; (with_reducible repeat (first | refine blk_drewN ?_ _ | refine blk_drew ?_ | refine blk_alloc ?_ _)); refine blk_put (cs := #[.int .i64 ((rd_T34 l0 x18_1).f0.f0), .int .i64 ((rd_T34 l0 x18_1).f0.f1), .int .i64 ((rd_T34 l0 x18_1).f0.f2), .int .i64 0, .int .i64 0, .int .i64 0, .string (⟨#[]⟩ : ByteArray), .string (⟨#[]⟩ : ByteArray), .string (⟨#[]⟩ : ByteArray), .string (⟨#[]⟩ : ByteArray)]) ?_ 3 _ rfl; (with_reducible repeat (first | refine blk_drewN ?_ _ | refine blk_drew ?_ | refine blk_alloc ?_ _)); refine blk_put (cs := #[.int .i64 ((rd_T34 l0 x18_1).f0.f0), .int .i64 ((rd_T34 l0 x18_1).f0.f1), .int .i64 0, .int .i64 0, .int .i64 0, .int .i64 0, .string (⟨#[]⟩ : ByteArray), .string (⟨#[]⟩ : ByteArray), .string (⟨#[]⟩ : ByteArray), .string (⟨#[]⟩ : ByteArray)]) ?_ 2 _ rfl; (with_reducible repeat (first | refine blk_drewN ?_ _ | refine blk_drew ?_ | refine blk_alloc ?_ _)); refine blk_put (cs := #[.int .i64 ((rd_T34 l0 x18_1).f0.f0), .int .i64 0, .int .i64 0, .int .i64 0, .int .i64 0, .int .i64 0, .string (⟨#[]⟩ : ByteArray), .string (⟨#[]⟩ : ByteArray), .string (⟨#[]⟩ : ByteArray), .string (⟨#[]⟩ : ByteArray)]) ?_ 1 _ rfl; (with_reducible repeat (first | refine blk_drewN ?_ _ | refine blk_drew ?_ | refine blk_alloc ?_ _)); refine blk_put (cs := #[.int .i64 0, .int .i64 0, .int .i64 0, .int .i64 0, .int .i64 0, .int .i64 0, .string (⟨#[]⟩ : ByteArray), .string (⟨#[]⟩ : ByteArray), .string (⟨#[]⟩ : ByteArray), .string (⟨#[]⟩ : ByteArray)]) ?_ 0 _ rfl; (with_reducible repeat (first | refine blk_drewN ?_ _ | refine blk_drew ?_ | refine blk_alloc ?_ _)); exact BK102.out) hb); have n2_ := Aside0.mk (below_step (by repeat (first | (with_reducible first | exact HB.out | apply below_alloc | apply pw_below_drewN | apply below_drew1 | refine below_set ?_ GE102.out) | exact HB.out)) hb); clear HO_8; clear BK102; clear HB; have HO_8 := n0_; have BK102 := n1_; have HB := n2_; clear n0_ n1_ n2_; (try clear hb); (try clear hb2); (try clear hk); (try clear hi)) | ((with_reducible refine gate_builtin (b := .append) (xs := #[.tmp 30, .tmp 32]) rfl ?_); (try (refine gate_guard (by rfl) ?_; dsimp only)); at_builtin; refine Kd.Q_append Kd.string (w0 := w) w.heap.size rfl (.tmp 30) (.tmp 32) 43 9 (.string ⟨#[]⟩) 16 rfl Tryd.underlying43 info9 rfl (by decide) (by omega) u8 x8_1 t103 [.string t103] (fun _ => True) (fun _ => False) rfl rfl ?aP (fun _ hk => hk.elim) ?aF ?aO ?aB ?aS ?aL ?_; (case aP => exact rfl); (case aB => exact (by repeat (first | (with_reducible first | exact HB.out | apply below_alloc | apply pw_below_drewN | apply below_drew1 | refine below_set ?_ GE102.out) | exact HB.out))); (case aF => exact (fun _ _ => trivial)); (case aO => exact (by (with_reducible repeat (first | apply Kd.Q_alloc | apply Kd.Q_drewN | apply Kd.Q_drew)); exact HO_8.out)); (case aS => exact (below_size (by repeat (first | (with_reducible first | exact HB.out | apply below_alloc | apply pw_below_drewN | apply below_drew1 | refine below_set ?_ GE102.out) | exact HB.out)))); (case aL => have := LMc9.out; omega); intro v106 w13 ho hb hg hat; rw [← Ny105.out] at ho; have n0_ := Aside0.mk (blk_grown (g := gb102) (o := .cells #[.int .i64 ((rd_T34 l0 x18_1).f0.f0), .int .i64 ((rd_T34 l0 x18_1).f0.f1), .int .i64 ((rd_T34 l0 x18_1).f0.f2), .int .i64 ((rd_T34 l0 x18_1).f1), .int .i64 ((rd_T34 l0 x18_1).f2), .int .i64 ((rd_T34 l0 x18_1).f3), .string ((rd_T34 l0 x18_1).f4), .string ((rd_T34 l0 x18_1).f5), .string ((rd_T34 l0 x18_1).f6), .string ((rd_T34 l0 x18_1).f7)] 34 (0, 0)) (by (with_reducible repeat (first | refine blk_drewN ?_ _ | refine blk_drew ?_ | refine blk_alloc ?_ _)); exact BK102.out) hg (Kd.Q_ne HO_8.out BK102.out (by decide))); have n1_ := Aside0.mk (hb); have n2_ := Aside0.mk (ho); clear BK102; clear HB; clear HO_8; have BK102 := n0_; have HB := n1_; have HO107 := n2_; clear n0_ n1_ n2_; clear ho hb hg hat))
                go_roundg k1
                case measure => have := HK1.out; omega
                case rel => exact ⟨(y105), (wrap64 (x18_1 + 1)), (by first | rfl | (simp; done) | (simp [*]; done)), H', ⟨by have := HK1.out; omega⟩, ⟨by (with_reducible repeat (first | apply Kd.Q_alloc | apply Kd.Q_drewN | apply Kd.Q_drew)); exact HO107.out⟩, ⟨by repeat (first | (with_reducible first | exact HB.out | apply below_alloc | apply pw_below_drewN | apply below_drew1 | refine below_set ?_ GE102.out) | exact HB.out)⟩⟩
              · rw [if_neg c9] at H
                exact absurd H (by simp)
            · rw [if_neg c8] at H
              have c8b0 : (t104 == 0) = false := beq_eq_false_iff_ne.mpr c8
              have c8b1 : (t104 != 0) = true := bne_iff_ne.mpr c8
              simp only [Option.some.injEq, Prod.mk.injEq] at H
              obtain ⟨rfl, rfl⟩ := H
              have p101 : 0 ≤ (x18_1 : Int) := of_decide_eq_true (by first | (with_reducible assumption) | assumption)
              have q101 : x18_1 < (l0.length : Int) := of_decide_eq_true (by first | (with_reducible assumption) | assumption)
              obtain ⟨ad101, e101, hx101_0, hx101_1, hx101_2, hx101_3, hx101_4, hx101_5, hx101_6, hx101_7, hx101_8, hx101_9⟩ := at_T34 HR0.out x18_1 p101 q101
              cases e101
              replace hx101_0 := (HB.out.cell (World.block_lt_of_cell? w _ hx101_0)).trans hx101_0
              replace hx101_1 := (HB.out.cell (World.block_lt_of_cell? w _ hx101_1)).trans hx101_1
              replace hx101_2 := (HB.out.cell (World.block_lt_of_cell? w _ hx101_2)).trans hx101_2
              replace hx101_3 := (HB.out.cell (World.block_lt_of_cell? w _ hx101_3)).trans hx101_3
              replace hx101_4 := (HB.out.cell (World.block_lt_of_cell? w _ hx101_4)).trans hx101_4
              replace hx101_5 := (HB.out.cell (World.block_lt_of_cell? w _ hx101_5)).trans hx101_5
              replace hx101_6 := (HB.out.cell (World.block_lt_of_cell? w _ hx101_6)).trans hx101_6
              replace hx101_7 := (HB.out.cell (World.block_lt_of_cell? w _ hx101_7)).trans hx101_7
              replace hx101_8 := (HB.out.cell (World.block_lt_of_cell? w _ hx101_8)).trans hx101_8
              replace hx101_9 := (HB.out.cell (World.block_lt_of_cell? w _ hx101_9)).trans hx101_9
              replace p101 := eq_true p101
              replace q101 := eq_true q101
              go_wp2_with (first | ((with_reducible refine gate_dst (N := 10) rfl ?_); (try (refine gate_guard (by rfl) ?_; dsimp only)); refine box_event ?hg (N := 10) ?hd (cs := #[.int .i64 0, .int .i64 0, .int .i64 0, .int .i64 0, .int .i64 0, .int .i64 0, .string (⟨#[]⟩ : ByteArray), .string (⟨#[]⟩ : ByteArray), .string (⟨#[]⟩ : ByteArray), .string (⟨#[]⟩ : ByteArray)]) (t := 34) ?hr ?_; (case hd => rfl); (case hg => rfl); (case hr => first | (go_simp; done) | (go_simp; rfl)); intro gb102 hg w14 hbox hb; have n0_ := Aside0.mk (Kd.Q_below (by (with_reducible repeat (first | apply Kd.Q_alloc | apply Kd.Q_drewN | apply Kd.Q_drew)); exact HO_8.out) hb); have n1_ := Aside0.mk (below_step (by repeat (first | (with_reducible first | exact HB.out | apply below_alloc | apply pw_below_drewN | apply below_drew1) | exact HB.out)) hb); have n2_ := Aside0.mk (hbox); have n3_ := Aside0.mk ((by rw [hg]; exact (below_size (by repeat (first | (with_reducible first | exact HB.out | apply below_alloc | apply pw_below_drewN | apply below_drew1) | exact HB.out))) : w.heap.size ≤ gb102)); have n4_ := Aside0.mk ((by rw [hg]; exact (below_size (by repeat (first | (with_reducible first | exact HB.out | apply below_alloc | apply pw_below_drewN | apply below_drew1) | exact HB.out))) : w.heap.size ≤ gb102)); clear HO_8; clear HB; have HO_8 := n0_; have HB := n1_; have BK102 := n2_; have GW102 := n3_; have GE102 := n4_; clear n0_ n1_ n2_ n3_ n4_; clear hb hbox hg; have hcz15_0 : w14.cell? ⟨gb102, 0, none⟩ = some (.int .i64 0) := (blk_cell BK102.out 0).trans rfl; have hcz15_1 : w14.cell? ⟨gb102, 1, none⟩ = some (.int .i64 0) := (blk_cell BK102.out 1).trans rfl; have hcz15_2 : w14.cell? ⟨gb102, 2, none⟩ = some (.int .i64 0) := (blk_cell BK102.out 2).trans rfl; have hcz15_3 : w14.cell? ⟨gb102, 3, none⟩ = some (.int .i64 0) := (blk_cell BK102.out 3).trans rfl; have hcz15_4 : w14.cell? ⟨gb102, 4, none⟩ = some (.int .i64 0) := (blk_cell BK102.out 4).trans rfl; have hcz15_5 : w14.cell? ⟨gb102, 5, none⟩ = some (.int .i64 0) := (blk_cell BK102.out 5).trans rfl; have hcz15_6 : w14.cell? ⟨gb102, 6, none⟩ = some (.string (⟨#[]⟩ : ByteArray)) := (blk_cell BK102.out 6).trans rfl; have hcz15_7 : w14.cell? ⟨gb102, 7, none⟩ = some (.string (⟨#[]⟩ : ByteArray)) := (blk_cell BK102.out 7).trans rfl; have hcz15_8 : w14.cell? ⟨gb102, 8, none⟩ = some (.string (⟨#[]⟩ : ByteArray)) := (blk_cell BK102.out 8).trans rfl; have hcz15_9 : w14.cell? ⟨gb102, 9, none⟩ = some (.string (⟨#[]⟩ : ByteArray)) := (blk_cell BK102.out 9).trans rfl; have hfz15_0 := blk_frozen BK102.out 0; have hfz15_1 := blk_frozen BK102.out 1; have hfz15_2 := blk_frozen BK102.out 2; have hfz15_3 := blk_frozen BK102.out 3; have hfz15_4 := blk_frozen BK102.out 4; have hfz15_5 := blk_frozen BK102.out 5; have hfz15_6 := blk_frozen BK102.out 6; have hfz15_7 := blk_frozen BK102.out 7; have hfz15_8 := blk_frozen BK102.out 8; have hfz15_9 := blk_frozen BK102.out 9) | ((with_reducible refine gate_callee (f := 19) rfl ?_); refine goesL_ (some 24) rfl rfl Tryd.func19 (by kernel_rfl) rfl #[.agg #[.int .i64 ((rd_T34 l0 x18_1).f0.f0), .int .i64 ((rd_T34 l0 x18_1).f0.f1), .int .i64 ((rd_T34 l0 x18_1).f0.f2), .int .i64 ((rd_T34 l0 x18_1).f1), .int .i64 ((rd_T34 l0 x18_1).f2), .int .i64 ((rd_T34 l0 x18_1).f3), .string ((rd_T34 l0 x18_1).f4), .string ((rd_T34 l0 x18_1).f5), .string ((rd_T34 l0 x18_1).f6), .string ((rd_T34 l0 x18_1).f7)]] rfl (by (try simp only [List.map_toArray, List.map_cons, List.map_nil]); first | done | rfl | (simp only [List.length_drop, List.length_take]; rfl)) ?_; (with_reducible refine (styx_EncodeDir.calls ((rd_T34 l0 x18_1).f0.f0) ((rd_T34 l0 x18_1).f0.f1) ((rd_T34 l0 x18_1).f0.f2) ((rd_T34 l0 x18_1).f1) ((rd_T34 l0 x18_1).f2) ((rd_T34 l0 x18_1).f3) ((rd_T34 l0 x18_1).f4) ((rd_T34 l0 x18_1).f5) ((rd_T34 l0 x18_1).f6) ((rd_T34 l0 x18_1).f7) t103 t104 _ A7.out).mono ?_); rintro e w16 ⟨rfl, hb⟩; refine ⟨_, rfl, ?_⟩; have n0_ := Aside0.mk (Kd.Q_below (by (with_reducible repeat (first | apply Kd.Q_alloc | apply Kd.Q_drewN | apply Kd.Q_drew)); exact (Kd.Q_mono (Kd.Q_far (p := ⟨gb102, 9, none⟩) (Kd.Q_far (p := ⟨gb102, 8, none⟩) (Kd.Q_far (p := ⟨gb102, 7, none⟩) (Kd.Q_far (p := ⟨gb102, 6, none⟩) (Kd.Q_far (p := ⟨gb102, 5, none⟩) (Kd.Q_far (p := ⟨gb102, 4, none⟩) (Kd.Q_far (p := ⟨gb102, 3, none⟩) (Kd.Q_far (p := ⟨gb102, 2, none⟩) (Kd.Q_far (p := ⟨gb102, 1, none⟩) (Kd.Q_far (p := ⟨gb102, 0, none⟩) (Kd.Q_types HO_8.out BK102.out (by decide)) (fun _ hk => hk.2) (.int .i64 ((rd_T34 l0 x18_1).f0.f0))) (fun _ hk => hk.2) (.int .i64 ((rd_T34 l0 x18_1).f0.f1))) (fun _ hk => hk.2) (.int .i64 ((rd_T34 l0 x18_1).f0.f2))) (fun _ hk => hk.2) (.int .i64 ((rd_T34 l0 x18_1).f1))) (fun _ hk => hk.2) (.int .i64 ((rd_T34 l0 x18_1).f2))) (fun _ hk => hk.2) (.int .i64 ((rd_T34 l0 x18_1).f3))) (fun _ hk => hk.2) (.string ((rd_T34 l0 x18_1).f4))) (fun _ hk => hk.2) (.string ((rd_T34 l0 x18_1).f5))) (fun _ hk => hk.2) (.string ((rd_T34 l0 x18_1).f6))) (fun _ hk => hk.2) (.string ((rd_T34 l0 x18_1).f7))) (fun _ h_ => h_.1))) hb); have n1_ := Aside0.mk (blk_below (g := gb102) (o := .cells #[.int .i64 ((rd_T34 l0 x18_1).f0.f0), .int .i64 ((rd_T34 l0 x18_1).f0.f1), .int .i64 ((rd_T34 l0 x18_1).f0.f2), .int .i64 ((rd_T34 l0 x18_1).f1), .int .i64 ((rd_T34 l0 x18_1).f2), .int .i64 ((rd_T34 l0 x18_1).f3), .string ((rd_T34 l0 x18_1).f4), .string ((rd_T34 l0 x18_1).f5), .string ((rd_T34 l0 x18_1).f6), .string ((rd_T34 l0 x18_1).f7)] 34 (0, 0)) (by (with_reducible repeat (first | refine blk_drewN ?_ _ | refine blk_drew ?_ | refine blk_alloc ?_ _)); refine blk_put (cs := #[.int .i64 ((rd_T34 l0 x18_1).f0.f0), .int .i64 ((rd_T34 l0 x18_1).f0.f1), .int .i64 ((rd_T34 l0 x18_1).f0.f2), .int .i64 ((rd_T34 l0 x18_1).f1), .int .i64 ((rd_T34 l0 x18_1).f2), .int .i64 ((rd_T34 l0 x18_1).f3), .string ((rd_T34 l0 x18_1).f4), .string ((rd_T34 l0 x18_1).f5), .string ((rd_T34 l0 x18_1).f6), .string (⟨#[]⟩ : ByteArray)]) ?_ 9 _ rfl; (with_reducible repeat (first | refine blk_drewN ?_ _ | refine blk_drew ?_ | refine blk_alloc ?_ _)); refine blk_put (cs := #[.int .i64 ((rd_T34 l0 x18_1).f0.f0), .int .i64 ((rd_T34 l0 x18_1).f0.f1), .int .i64 ((rd_T34 l0 x18_1).f0.f2), .int .i64 ((rd_T34 l0 x18_1).f1), .int .i64 ((rd_T34 l0 x18_1).f2), .int .i64 ((rd_T34 l0 x18_1).f3), .string ((rd_T34 l0 x18_1).f4), .string ((rd_T34 l0 x18_1).f5), .string (⟨#[]⟩ : ByteArray), .string (⟨#[]⟩ : ByteArray)]) ?_ 8 _ rfl; (with_reducible repeat (first | refine blk_drewN ?_ _ | refine blk_drew ?_ | refine blk_alloc ?_ _)); refine blk_put (cs := #[.int .i64 ((rd_T34 l0 x18_1).f0.f0), .int .i64 ((rd_T34 l0 x18_1).f0.f1), .int .i64 ((rd_T34 l0 x18_1).f0.f2), .int .i64 ((rd_T34 l0 x18_1).f1), .int .i64 ((rd_T34 l0 x18_1).f2), .int .i64 ((rd_T34 l0 x18_1).f3), .string ((rd_T34 l0 x18_1).f4), .string (⟨#[]⟩ : ByteArray), .string (⟨#[]⟩ : ByteArray), .string (⟨#[]⟩ : ByteArray)]) ?_ 7 _ rfl; (with_reducible repeat (first | refine blk_drewN ?_ _ | refine blk_drew ?_ | refine blk_alloc ?_ _)); refine blk_put (cs := #[.int .i64 ((rd_T34 l0 x18_1).f0.f0), .int .i64 ((rd_T34 l0 x18_1).f0.f1), .int .i64 ((rd_T34 l0 x18_1).f0.f2), .int .i64 ((rd_T34 l0 x18_1).f1), .int .i64 ((rd_T34 l0 x18_1).f2), .int .i64 ((rd_T34 l0 x18_1).f3), .string (⟨#[]⟩ : ByteArray), .string (⟨#[]⟩ : ByteArray), .string (⟨#[]⟩ : ByteArray), .string (⟨#[]⟩ : ByteArray)]) ?_ 6 _ rfl; (with_reducible repeat (first | refine blk_drewN ?_ _ | refine blk_drew ?_ | refine blk_alloc ?_ _)); refine blk_put (cs := #[.int .i64 ((rd_T34 l0 x18_1).f0.f0), .int .i64 ((rd_T34 l0 x18_1).f0.f1), .int .i64 ((rd_T34 l0 x18_1).f0.f2), .int .i64 ((rd_T34 l0 x18_1).f1), .int .i64 ((rd_T34 l0 x18_1).f2), .int .i64 0, .string (⟨#[]⟩ : ByteArray), .string (⟨#[]⟩ : ByteArray), .string (⟨#[]⟩ : ByteArray), .string (⟨#[]⟩ : ByteArray)]) ?_ 5 _ rfl; (with_reducible repeat (first | refine blk_drewN ?_ _ | refine blk_drew ?_ | refine blk_alloc ?_ _)); refine blk_put (cs := #[.int .i64 ((rd_T34 l0 x18_1).f0.f0), .int .i64 ((rd_T34 l0 x18_1).f0.f1), .int .i64 ((rd_T34 l0 x18_1).f0.f2), .int .i64 ((rd_T34 l0 x18_1).f1), .int .i64 0, .int .i64 0, .string (⟨#[]⟩ : ByteArray), .string (⟨#[]⟩ : ByteArray), .string (⟨#[]⟩ : ByteArray), .string (⟨#[]⟩ : ByteArray)]) ?_ 4 _ rfl; (with_reducible repeat (first | refine blk_drewN ?_ _ | refine blk_drew ?_ | refine blk_alloc ?_ _)); refine blk_put (cs := #[.int .i64 ((rd_T34 l0 x18_1).f0.f0), .int .i64 ((rd_T34 l0 x18_1).f0.f1), .int .i64 ((rd_T34 l0 x18_1).f0.f2), .int .i64 0, .int .i64 0, .int .i64 0, .string (⟨#[]⟩ : ByteArray), .string (⟨#[]⟩ : ByteArray), .string (⟨#[]⟩ : ByteArray), .string (⟨#[]⟩ : ByteArray)]) ?_ 3 _ rfl; (with_reducible repeat (first | refine blk_drewN ?_ _ | refine blk_drew ?_ | refine blk_alloc ?_ _)); refine blk_put (cs := #[.int .i64 ((rd_T34 l0 x18_1).f0.f0), .int .i64 ((rd_T34 l0 x18_1).f0.f1), .int .i64 0, .int .i64 0, .int .i64 0, .int .i64 0, .string (⟨#[]⟩ : ByteArray), .string (⟨#[]⟩ : ByteArray), .string (⟨#[]⟩ : ByteArray), .string (⟨#[]⟩ : ByteArray)]) ?_ 2 _ rfl; (with_reducible repeat (first | refine blk_drewN ?_ _ | refine blk_drew ?_ | refine blk_alloc ?_ _)); refine blk_put (cs := #[.int .i64 ((rd_T34 l0 x18_1).f0.f0), .int .i64 0, .int .i64 0, .int .i64 0, .int .i64 0, .int .i64 0, .string (⟨#[]⟩ : ByteArray), .string (⟨#[]⟩ : ByteArray), .string (⟨#[]⟩ : ByteArray), .string (⟨#[]⟩ : ByteArray)]) ?_ 1 _ rfl; (with_reducible repeat (first | refine blk_drewN ?_ _ | refine blk_drew ?_ | refine blk_alloc ?_ _)); refine blk_put (cs := #[.int .i64 0, .int .i64 0, .int .i64 0, .int .i64 0, .int .i64 0, .int .i64 0, .string (⟨#[]⟩ : ByteArray), .string (⟨#[]⟩ : ByteArray), .string (⟨#[]⟩ : ByteArray), .string (⟨#[]⟩ : ByteArray)]) ?_ 0 _ rfl; (with_reducible repeat (first | refine blk_drewN ?_ _ | refine blk_drew ?_ | refine blk_alloc ?_ _)); exact BK102.out) hb); have n2_ := Aside0.mk (below_step (by repeat (first | (with_reducible first | exact HB.out | apply below_alloc | apply pw_below_drewN | apply below_drew1 | refine below_set ?_ GE102.out) | exact HB.out)) hb); clear HO_8; clear BK102; clear HB; have HO_8 := n0_; have BK102 := n1_; have HB := n2_; clear n0_ n1_ n2_; (try clear hb); (try clear hb2); (try clear hk); (try clear hi)))
              go_ret2
              exact ⟨by first | rfl | (simp [errW_none, errW_some] <;> rfl) | (simp [*, errW_none, errW_some] <;> rfl), by repeat (first | (with_reducible first | exact HB.out | apply below_alloc | apply pw_below_drewN | apply below_drew1 | refine below_set ?_ GE102.out) | exact HB.out)⟩
          · rw [if_neg c6] at H
            exact absurd H (by simp)
        · rw [if_neg c5] at H
          exact absurd H (by simp)
      · rw [if_neg c4] at H
        have c4b0 : decide (x18_1 < (l0.length : Int)) = false := decide_eq_false c4
        clear c4
        have HC17 := Aside0.mk H
        clear H
        go_upto_block 2 with (fail)
        go_cut [1, 8] (fun v1 v8 wc => ∃ (kq : Nat) (x1_16 : Int) (x8_16 : List ByteArray), v1 = .int .i64 x1_16 ∧ Aside0 (styx_Entries.j2 kq x1_16 a2 x8_16 = some (r1, r2)) ∧ Aside0 (kq ≤ k1) ∧ Aside0 (Kd.Q Kd.string 9 wc w.heap.size (fun _ => True) v8 x8_16) ∧ Aside0 (Below w.heap.size w wc))
        case first =>
          have H := HC17.out
          clear HC17
          have H' := Aside0.mk H
          clear H
          go_wp2
          go_loopg [1, 8] k1 (fun kq v1 v8 w' => ∃ (x1_2 : Int) (x8_2 : List ByteArray), v1 = .int .i64 x1_2 ∧ Aside0 (styx_Entries.l1 kq x1_2 a2 x8_2 = some (r1, r2)) ∧ Aside0 (kq ≤ k1) ∧ Aside0 (Kd.Q Kd.string 9 w' w.heap.size (fun _ => True) v8 x8_2) ∧ Aside0 (Below w.heap.size w w'))
          case atStart => exact ⟨(a1), (x8_1), (by first | rfl | (simp; done) | (simp [*]; done)), H', ⟨Nat.le_refl _⟩, ⟨by (with_reducible repeat (first | apply Kd.Q_alloc | apply Kd.Q_drewN | apply Kd.Q_drew)); exact HO_8.out⟩, ⟨by repeat (first | (with_reducible first | exact HB.out | apply below_alloc | apply pw_below_drewN | apply below_drew1) | exact HB.out)⟩⟩
          case round =>
            clear H'
            try clear c1
            try clear p1
            try clear q1
            try clear hx1
            try clear p2
            try clear c4
            try clear c4b0
            try clear c5
            try clear c5b0
            try clear c6
            try clear c6b0
            try clear p6
            try clear c7
            try clear c8
            try clear c8b0
            try clear c8b1
            try clear c9
            try clear p10
            try clear q10
            try clear hx10
            try clear hcz11_0
            try clear hcz11_1
            try clear hcz11_2
            try clear hcz11_3
            try clear hcz11_4
            try clear hcz11_5
            try clear hcz11_6
            try clear hcz11_7
            try clear hcz11_8
            try clear hcz11_9
            try clear hcz15_0
            try clear hcz15_1
            try clear hcz15_2
            try clear hcz15_3
            try clear hcz15_4
            try clear hcz15_5
            try clear hcz15_6
            try clear hcz15_7
            try clear hcz15_8
            try clear hcz15_9
            try clear hfz11_0
            try clear hfz11_1
            try clear hfz11_2
            try clear hfz11_3
            try clear hfz11_4
            try clear hfz11_5
            try clear hfz11_6
            try clear hfz11_7
            try clear hfz11_8
            try clear hfz11_9
            try clear hfz15_0
            try clear hfz15_1
            try clear hfz15_2
            try clear hfz15_3
            try clear hfz15_4
            try clear hfz15_5
            try clear hfz15_6
            try clear hfz15_7
            try clear hfz15_8
            try clear hfz15_9
            try clear hx101_0
            try clear hx101_1
            try clear hx101_2
            try clear hx101_3
            try clear hx101_4
            try clear hx101_5
            try clear hx101_6
            try clear hx101_7
            try clear hx101_8
            try clear hx101_9
            try clear p101
            try clear p2
            try clear q101
            obtain ⟨x1_2, x8_2, rfl, HA, HK2, HO_8, HB⟩ := hrel
            cases gk with
            | zero => exact absurd HA.out (by simp [styx_Entries.l1])
            | succ k2 =>
              have H := HA.out
              clear HA
              simp only [styx_Entries.l1] at H
              by_cases c18 : x1_2 > 0
              · rw [if_pos c18] at H
                have c18b0 : decide (0 < x1_2) = true := decide_eq_true c18
                clear c18
                (first | rw [c18b0] | (simp only [i64_w, i32_w]; rw [c18b0]) | skip)
                by_cases c19 : (x8_2.length : Int) > 0
                · rw [if_pos c19] at H
                  have c19b0 : decide (0 < (x8_2.length : Int)) = true := decide_eq_true c19
                  have c19b1 : decide (0 < x8_2.length) = true := decide_eq_true (by omega)
                  clear c19
                  by_cases c20 : 0 < (x8_2.length : Int)
                  · rw [if_pos c20] at H
                    have c20b0 : decide (0 < (x8_2.length : Int)) = true := decide_eq_true c20
                    have c20b1 : decide (0 < x8_2.length) = true := decide_eq_true (by omega)
                    clear c20
                    by_cases c21 : 1 ≤ (x8_2.length : Int)
                    · rw [if_pos c21] at H
                      have c21b0 := eq_true c21
                      have c21b1 : decide (1 ≤ (x8_2.length : Int)) = true := decide_eq_true c21
                      clear c21
                      obtain ⟨y109, hy109⟩ : ∃ y_ : List ByteArray, y_ = (x8_2.drop (1 : Int).toNat) := ⟨_, rfl⟩
                      replace H : (styx_Entries.l1 k2 (wrap64 (x1_2 - ((rdOf ByteArray.empty x8_2 0).size : Int))) a2 y109) = some (r1, r2) := by first | (rw [hy109]; with_reducible exact H) | (have H2_ := (Option.bind_some _ _).symm.trans H; rw [hy109]; with_reducible exact H2_) | (have H2_ := (Option.bind_some _ _).symm.trans H; with_reducible exact H2_) | with_reducible exact H | (rw [hy109]; exact H) | exact H
                      have Ny109 := Aside0.mk hy109
                      clear hy109
                      have H' := Aside0.mk H
                      clear H
                      obtain ⟨Ao22, co22, eo22, _⟩ := Kd.Q_slice HO_8.out
                      subst eo22
                      have p108 : 0 ≤ (0 : Int) := (by omega)
                      have q108 : 0 < (x8_2.length : Int) := of_decide_eq_true (by first | (with_reducible assumption) | assumption)
                      obtain ⟨ad108, e108, hx108_0⟩ := Kd.at_string (Kd.Q_reads' HO_8.out).2.2 0 p108 q108
                      cases e108
                      have qi108 : (0 < x8_2.length) = True := eq_true (by omega)
                      (try rw [show ((0 : Int)).toNat = 0 from rfl] at hx108_0)
                      (try rw [Addr.add_zero'] at hx108_0)
                      replace p108 := eq_true p108
                      replace q108 := eq_true q108
                      have q23 : (1 : Int) ≤ ((x8_2.length : Int) : Int) := of_decide_eq_true (by first | (with_reducible assumption) | assumption)
                      obtain ⟨i023, hi023, _, hsz23, _⟩ := info_parts info9
                      have hcut23 := cut_from (P := Tryd.prog) 43 9 .i64 Tryd.underlying43 hi023 1 hsz23 (some ad108) x8_2.length co22 1 (by omega) q23
                      have hr23 := Kd.Q_drop (k := (1 : Int).toNat) HO_8.out (by omega)
                      obtain ⟨A23, hA23⟩ : ∃ A1, A1 = (if co22 = (1 : Int).toNat then (some ad108) else ((some ad108) : Option Addr).map (·.add ((1 : Int).toNat * 1))) := ⟨_, rfl⟩
                      obtain ⟨c23, hc23⟩ : ∃ c1, c1 = co22 - (1 : Int).toNat := ⟨_, rfl⟩
                      have hy23 : y109.length = x8_2.length - (1 : Int).toNat := (by rw [Ny109.out, List.length_drop])
                      rw [← Ny109.out] at hr23
                      rw [← hy23, ← hA23, ← hc23] at hcut23
                      replace hr23 : Kd.Q Kd.string 9 wr w.heap.size (fun _ => True) (.slice A23 y109.length c23) y109 := (by rw [hA23, hc23, hy23]; exact hr23)
                      have HE23 : Aside0 ((Value.slice A23 y109.length c23).ownBlock = (.slice (some ad108) x8_2.length co22 : Value).ownBlock) := ⟨by rw [hA23]; split <;> (cases ((some ad108) : Option Addr) <;> rfl)⟩
                      clear hy23 hi023 hsz23 HO_8 hA23 hc23
                      have HO111 := Aside0.mk hr23
                      clear hr23
                      replace q23 := eq_true q23
                      go_wp2
                      go_roundg k2
                      case measure => have := HK1.out; have := HK2.out; omega
                      case rel => exact ⟨(wrap64 (x1_2 - ((rdOf ByteArray.empty x8_2 0).size : Int))), (y109), (by first | rfl | (simp; done) | (simp [*]; done)), H', ⟨by have := HK1.out; have := HK2.out; omega⟩, ⟨by (with_reducible repeat (first | apply Kd.Q_alloc | apply Kd.Q_drewN | apply Kd.Q_drew)); exact HO111.out⟩, ⟨by repeat (first | (with_reducible first | exact HB.out | apply below_alloc | apply pw_below_drewN | apply below_drew1) | exact HB.out)⟩⟩
                    · rw [if_neg c21] at H
                      exact absurd H (by simp)
                  · rw [if_neg c20] at H
                    exact absurd H (by simp)
                · rw [if_neg c19] at H
                  have c19b0 : decide (0 < (x8_2.length : Int)) = false := decide_eq_false c19
                  have c19b1 : decide (0 < x8_2.length) = false := decide_eq_false (by omega)
                  clear c19
                  have H' := Aside0.mk H
                  clear H
                  obtain ⟨Ao24, co24, eo24, _⟩ := Kd.Q_slice HO_8.out
                  subst eo24
                  go_wp2
                  go_meet
                  case rel => exact ⟨_, (x1_2), (x8_2), (by first | rfl | (simp; done) | (simp [*]; done)), H', ⟨by have := HK1.out; have := HK2.out; first | omega | exact Nat.le_refl _⟩, ⟨by (with_reducible repeat (first | apply Kd.Q_alloc | apply Kd.Q_drewN | apply Kd.Q_drew)); exact HO_8.out⟩, ⟨by repeat (first | (with_reducible first | exact HB.out | apply below_alloc | apply pw_below_drewN | apply below_drew1) | exact HB.out)⟩⟩
              · rw [if_neg c18] at H
                have c18b0 : decide (0 < x1_2) = false := decide_eq_false c18
                clear c18
                (first | rw [c18b0] | (simp only [i64_w, i32_w]; rw [c18b0]) | skip)
                have H' := Aside0.mk H
                clear H
                go_wp2
                go_meet
                case rel => exact ⟨_, (x1_2), (x8_2), (by first | rfl | (simp; done) | (simp [*]; done)), H', ⟨by have := HK1.out; have := HK2.out; first | omega | exact Nat.le_refl _⟩, ⟨by (with_reducible repeat (first | apply Kd.Q_alloc | apply Kd.Q_drewN | apply Kd.Q_drew)); exact HO_8.out⟩, ⟨by repeat (first | (with_reducible first | exact HB.out | apply below_alloc | apply pw_below_drewN | apply below_drew1) | exact HB.out)⟩⟩
        case rest =>
          clear HC17
          try clear c1
          try clear p1
          try clear q1
          try clear hx1
          try clear qi1
          try clear c2
          try clear p2
          try clear q2
          try clear c4
          try clear c4b0
          try clear c5
          try clear c5b0
          try clear c6
          try clear c6b0
          try clear p6
          try clear c7
          try clear c8
          try clear c8b0
          try clear c8b1
          try clear c9
          try clear p10
          try clear q10
          try clear hx10
          try clear qi10
          try clear c18
          try clear c18b0
          try clear c19
          try clear c19b0
          try clear c19b1
          try clear c20
          try clear c20b0
          try clear c20b1
          try clear c21
          try clear c21b0
          try clear c21b1
          try clear c23
          try clear q23
          try clear hcz11_0
          try clear hcz11_1
          try clear hcz11_2
          try clear hcz11_3
          try clear hcz11_4
          try clear hcz11_5
          try clear hcz11_6
          try clear hcz11_7
          try clear hcz11_8
          try clear hcz11_9
          try clear hcz15_0
          try clear hcz15_1
          try clear hcz15_2
          try clear hcz15_3
          try clear hcz15_4
          try clear hcz15_5
          try clear hcz15_6
          try clear hcz15_7
          try clear hcz15_8
          try clear hcz15_9
          try clear hfz11_0
          try clear hfz11_1
          try clear hfz11_2
          try clear hfz11_3
          try clear hfz11_4
          try clear hfz11_5
          try clear hfz11_6
          try clear hfz11_7
          try clear hfz11_8
          try clear hfz11_9
          try clear hfz15_0
          try clear hfz15_1
          try clear hfz15_2
          try clear hfz15_3
          try clear hfz15_4
          try clear hfz15_5
          try clear hfz15_6
          try clear hfz15_7
          try clear hfz15_8
          try clear hfz15_9
          try clear hx101_0
          try clear hx101_1
          try clear hx101_2
          try clear hx101_3
          try clear hx101_4
          try clear hx101_5
          try clear hx101_6
          try clear hx101_7
          try clear hx101_8
          try clear hx101_9
          try clear hx108_0
          try clear p1
          try clear p10
          try clear p101
          try clear p108
          try clear p2
          try clear p6
          try clear q1
          try clear q10
          try clear q101
          try clear q108
          try clear q23
          obtain ⟨kq, x1_16, x8_16, rfl, HA, HJ16, HO_8, HB⟩ := hcut
          cases kq with
          | zero => exact absurd HA.out (by simp [styx_Entries.j2])
          | succ kj16 =>
            have H := HA.out
            clear HA
            simp only [styx_Entries.j2] at H
            have HC25 := Aside0.mk H
            clear H
            go_upto_block 4 with (fail)
            go_cut [] (fun wc => ∃ (kq : Nat), Aside0 (styx_Entries.j4 kq a2 x8_16 = some (r1, r2)) ∧ Aside0 (kq ≤ kj16) ∧ Aside0 (Kd.Q Kd.string 9 wc w.heap.size (fun _ => True) u8 x8_16) ∧ Aside0 (Below w.heap.size w wc))
            case first =>
              have H := HC25.out
              clear HC25
              have HC26 := Aside0.mk H
              clear H
              go_upto_region 13 with (fail)
              go_cut [50] (fun v50 wc => ∃ (kq : Nat) (x50_25 : Bool), v50 = .bool x50_25 ∧ Aside0 (styx_Entries.j3 kq a2 x8_16 x50_25 = some (r1, r2)) ∧ Aside0 (kq ≤ kj16) ∧ Aside0 (Kd.Q Kd.string 9 wc w.heap.size (fun _ => True) u8 x8_16) ∧ Aside0 (Below w.heap.size w wc))
              case first =>
                have H := HC26.out
                clear HC26
                by_cases c27 : a2 < 0
                · rw [if_pos c27] at H
                  have c27b0 : decide (a2 < 0) = true := decide_eq_true c27
                  clear c27
                  (first | rw [c27b0] | (simp only [i64_w, i32_w]; rw [c27b0]) | skip)
                  have H' := Aside0.mk H
                  clear H
                  go_wp2
                  go_meet
                  case rel => exact ⟨_, (true), (by first | rfl | (simp; done) | (simp [*]; done)), H', ⟨by have := HK1.out; have := HJ16.out; first | omega | exact Nat.le_refl _⟩, ⟨by (with_reducible repeat (first | apply Kd.Q_alloc | apply Kd.Q_drewN | apply Kd.Q_drew)); exact HO_8.out⟩, ⟨by repeat (first | (with_reducible first | exact HB.out | apply below_alloc | apply pw_below_drewN | apply below_drew1) | exact HB.out)⟩⟩
                · rw [if_neg c27] at H
                  have c27b0 : decide (a2 < 0) = false := decide_eq_false c27
                  clear c27
                  (first | rw [c27b0] | (simp only [i64_w, i32_w]; rw [c27b0]) | skip)
                  have H' := Aside0.mk H
                  clear H
                  go_wp2
                  go_meet
                  case rel => exact ⟨_, ((x1_16 != 0)), (by first | rfl | (simp; done) | (simp [*]; done)), H', ⟨by have := HK1.out; have := HJ16.out; first | omega | exact Nat.le_refl _⟩, ⟨by (with_reducible repeat (first | apply Kd.Q_alloc | apply Kd.Q_drewN | apply Kd.Q_drew)); exact HO_8.out⟩, ⟨by repeat (first | (with_reducible first | exact HB.out | apply below_alloc | apply pw_below_drewN | apply below_drew1) | exact HB.out)⟩⟩
              case rest =>
                clear HC26
                try clear c1
                try clear p1
                try clear q1
                try clear hx1
                try clear qi1
                try clear c2
                try clear p2
                try clear q2
                try clear c4
                try clear c4b0
                try clear c5
                try clear c5b0
                try clear c6
                try clear c6b0
                try clear p6
                try clear c7
                try clear c8
                try clear c8b0
                try clear c8b1
                try clear c9
                try clear p10
                try clear q10
                try clear hx10
                try clear qi10
                try clear c18
                try clear c18b0
                try clear c19
                try clear c19b0
                try clear c19b1
                try clear c20
                try clear c20b0
                try clear c20b1
                try clear c21
                try clear c21b0
                try clear c21b1
                try clear c23
                try clear q23
                try clear c27
                try clear c27b0
                try clear hcz11_0
                try clear hcz11_1
                try clear hcz11_2
                try clear hcz11_3
                try clear hcz11_4
                try clear hcz11_5
                try clear hcz11_6
                try clear hcz11_7
                try clear hcz11_8
                try clear hcz11_9
                try clear hcz15_0
                try clear hcz15_1
                try clear hcz15_2
                try clear hcz15_3
                try clear hcz15_4
                try clear hcz15_5
                try clear hcz15_6
                try clear hcz15_7
                try clear hcz15_8
                try clear hcz15_9
                try clear hfz11_0
                try clear hfz11_1
                try clear hfz11_2
                try clear hfz11_3
                try clear hfz11_4
                try clear hfz11_5
                try clear hfz11_6
                try clear hfz11_7
                try clear hfz11_8
                try clear hfz11_9
                try clear hfz15_0
                try clear hfz15_1
                try clear hfz15_2
                try clear hfz15_3
                try clear hfz15_4
                try clear hfz15_5
                try clear hfz15_6
                try clear hfz15_7
                try clear hfz15_8
                try clear hfz15_9
                try clear hx101_0
                try clear hx101_1
                try clear hx101_2
                try clear hx101_3
                try clear hx101_4
                try clear hx101_5
                try clear hx101_6
                try clear hx101_7
                try clear hx101_8
                try clear hx101_9
                try clear hx108_0
                try clear p1
                try clear p10
                try clear p101
                try clear p108
                try clear p2
                try clear p6
                try clear q1
                try clear q10
                try clear q101
                try clear q108
                try clear q2
                try clear q23
                obtain ⟨kq, x50_25, rfl, HA, HJ25, HO_8, HB⟩ := hcut
                cases kq with
                | zero => exact absurd HA.out (by simp [styx_Entries.j3])
                | succ kj25 =>
                  have H := HA.out
                  clear HA
                  simp only [styx_Entries.j3] at H
                  by_cases c28 : x50_25 = true
                  · subst c28
                    have H1 : (some ((⟨#[]⟩ : ByteArray), 11)) = some (r1, r2) := by rw [if_pos rfl] at H; exact H
                    clear H
                    have H := H1
                    clear H1
                    simp only [Option.some.injEq, Prod.mk.injEq] at H
                    obtain ⟨rfl, rfl⟩ := H
                    go_wp2
                    go_ret2
                    exact ⟨by first | rfl | (simp [errW_none, errW_some] <;> rfl) | (simp [*, errW_none, errW_some] <;> rfl), by repeat (first | (with_reducible first | exact HB.out | apply below_alloc | apply pw_below_drewN | apply below_drew1) | exact HB.out)⟩
                  · replace c28 := Bool.eq_false_iff.mpr c28
                    subst c28
                    have H1 : (if (x8_16.length : Int) > 0 then (if 0 < (x8_16.length : Int) then (if ((rdOf ByteArray.empty x8_16 0).size : Int) > a2 then (some ((⟨#[]⟩ : ByteArray), 3)) else (styx_Entries.j4 kj25 a2 x8_16)) else (none)) else (styx_Entries.j4 kj25 a2 x8_16)) = some (r1, r2) := by rw [if_neg (show ¬ (false = true) by decide)] at H; exact H
                    clear H
                    have H := H1
                    clear H1
                    by_cases c29 : (x8_16.length : Int) > 0
                    · rw [if_pos c29] at H
                      have c29b0 : decide (0 < (x8_16.length : Int)) = true := decide_eq_true c29
                      have c29b1 : decide (0 < x8_16.length) = true := decide_eq_true (by omega)
                      clear c29
                      by_cases c30 : 0 < (x8_16.length : Int)
                      · rw [if_pos c30] at H
                        have c30b0 : decide (0 < (x8_16.length : Int)) = true := decide_eq_true c30
                        have c30b1 : decide (0 < x8_16.length) = true := decide_eq_true (by omega)
                        clear c30
                        by_cases c31 : ((rdOf ByteArray.empty x8_16 0).size : Int) > a2
                        · rw [if_pos c31] at H
                          have c31b0 : decide (a2 < ((rdOf ByteArray.empty x8_16 0).size : Int)) = true := decide_eq_true c31
                          clear c31
                          simp only [Option.some.injEq, Prod.mk.injEq] at H
                          obtain ⟨rfl, rfl⟩ := H
                          obtain ⟨Ao32, co32, eo32, _⟩ := Kd.Q_slice HO_8.out
                          subst eo32
                          have p112 : 0 ≤ (0 : Int) := (by omega)
                          have q112 : 0 < (x8_16.length : Int) := of_decide_eq_true (by first | (with_reducible assumption) | assumption)
                          obtain ⟨ad112, e112, hx112_0⟩ := Kd.at_string (Kd.Q_reads' HO_8.out).2.2 0 p112 q112
                          cases e112
                          have qi112 : (0 < x8_16.length) = True := eq_true (by omega)
                          (try rw [show ((0 : Int)).toNat = 0 from rfl] at hx112_0)
                          (try rw [Addr.add_zero'] at hx112_0)
                          replace p112 := eq_true p112
                          replace q112 := eq_true q112
                          go_wp2
                          go_ret2
                          exact ⟨by first | rfl | (simp [errW_none, errW_some] <;> rfl) | (simp [*, errW_none, errW_some] <;> rfl), by repeat (first | (with_reducible first | exact HB.out | apply below_alloc | apply pw_below_drewN | apply below_drew1) | exact HB.out)⟩
                        · rw [if_neg c31] at H
                          have c31b0 : decide (a2 < ((rdOf ByteArray.empty x8_16 0).size : Int)) = false := decide_eq_false c31
                          clear c31
                          have H' := Aside0.mk H
                          clear H
                          obtain ⟨Ao33, co33, eo33, _⟩ := Kd.Q_slice HO_8.out
                          subst eo33
                          have p112 : 0 ≤ (0 : Int) := (by omega)
                          have q112 : 0 < (x8_16.length : Int) := of_decide_eq_true (by first | (with_reducible assumption) | assumption)
                          obtain ⟨ad112, e112, hx112_0⟩ := Kd.at_string (Kd.Q_reads' HO_8.out).2.2 0 p112 q112
                          cases e112
                          have qi112 : (0 < x8_16.length) = True := eq_true (by omega)
                          (try rw [show ((0 : Int)).toNat = 0 from rfl] at hx112_0)
                          (try rw [Addr.add_zero'] at hx112_0)
                          replace p112 := eq_true p112
                          replace q112 := eq_true q112
                          go_wp2
                          go_meet
                          case rel => exact ⟨_, H', ⟨by have := HK1.out; have := HJ16.out; have := HJ25.out; first | omega | exact Nat.le_refl _⟩, ⟨by (with_reducible repeat (first | apply Kd.Q_alloc | apply Kd.Q_drewN | apply Kd.Q_drew)); exact HO_8.out⟩, ⟨by repeat (first | (with_reducible first | exact HB.out | apply below_alloc | apply pw_below_drewN | apply below_drew1) | exact HB.out)⟩⟩
                      · rw [if_neg c30] at H
                        exact absurd H (by simp)
                    · rw [if_neg c29] at H
                      have c29b0 : decide (0 < (x8_16.length : Int)) = false := decide_eq_false c29
                      have c29b1 : decide (0 < x8_16.length) = false := decide_eq_false (by omega)
                      clear c29
                      have H' := Aside0.mk H
                      clear H
                      obtain ⟨Ao34, co34, eo34, _⟩ := Kd.Q_slice HO_8.out
                      subst eo34
                      go_wp2
                      go_meet
                      case rel => exact ⟨_, H', ⟨by have := HK1.out; have := HJ16.out; have := HJ25.out; first | omega | exact Nat.le_refl _⟩, ⟨by (with_reducible repeat (first | apply Kd.Q_alloc | apply Kd.Q_drewN | apply Kd.Q_drew)); exact HO_8.out⟩, ⟨by repeat (first | (with_reducible first | exact HB.out | apply below_alloc | apply pw_below_drewN | apply below_drew1) | exact HB.out)⟩⟩
            case rest =>
              clear HC25
              try clear c1
              try clear p1
              try clear q1
              try clear hx1
              try clear qi1
              try clear c2
              try clear p2
              try clear q2
              try clear c3
              try clear c4
              try clear c4b0
              try clear c5
              try clear c5b0
              try clear c6
              try clear c6b0
              try clear p6
              try clear c7
              try clear c8
              try clear c8b0
              try clear c8b1
              try clear c9
              try clear p10
              try clear q10
              try clear hx10
              try clear qi10
              try clear p11
              try clear q11
              try clear hx11
              try clear qi11
              try clear c18
              try clear c18b0
              try clear c19
              try clear c19b0
              try clear c19b1
              try clear c20
              try clear c20b0
              try clear c20b1
              try clear c21
              try clear c21b0
              try clear c21b1
              try clear c23
              try clear q23
              try clear c27
              try clear c27b0
              try clear c28
              try clear c29
              try clear c29b0
              try clear c29b1
              try clear c30
              try clear c30b0
              try clear c30b1
              try clear c31
              try clear c31b0
              try clear hcz11_0
              try clear hcz11_1
              try clear hcz11_2
              try clear hcz11_3
              try clear hcz11_4
              try clear hcz11_5
              try clear hcz11_6
              try clear hcz11_7
              try clear hcz11_8
              try clear hcz11_9
              try clear hcz15_0
              try clear hcz15_1
              try clear hcz15_2
              try clear hcz15_3
              try clear hcz15_4
              try clear hcz15_5
              try clear hcz15_6
              try clear hcz15_7
              try clear hcz15_8
              try clear hcz15_9
              try clear hfz11_0
              try clear hfz11_1
              try clear hfz11_2
              try clear hfz11_3
              try clear hfz11_4
              try clear hfz11_5
              try clear hfz11_6
              try clear hfz11_7
              try clear hfz11_8
              try clear hfz11_9
              try clear hfz15_0
              try clear hfz15_1
              try clear hfz15_2
              try clear hfz15_3
              try clear hfz15_4
              try clear hfz15_5
              try clear hfz15_6
              try clear hfz15_7
              try clear hfz15_8
              try clear hfz15_9
              try clear hx101_0
              try clear hx101_1
              try clear hx101_2
              try clear hx101_3
              try clear hx101_4
              try clear hx101_5
              try clear hx101_6
              try clear hx101_7
              try clear hx101_8
              try clear hx101_9
              try clear hx108_0
              try clear hx112_0
              try clear p1
              try clear p10
              try clear p101
              try clear p108
              try clear p112
              try clear p2
              try clear p6
              try clear q1
              try clear q10
              try clear q101
              try clear q108
              try clear q112
              try clear q2
              try clear q23
              obtain ⟨kq, HA, HJ24, HO_8, HB⟩ := hcut
              cases kq with
              | zero => exact absurd HA.out (by simp [styx_Entries.j4])
              | succ kj24 =>
                have H := HA.out
                clear HA
                simp only [styx_Entries.j4] at H
                have H' := Aside0.mk H
                clear H
                obtain ⟨Ao35, co35, eo35, _⟩ := Kd.Q_slice HO_8.out
                subst eo35
                go_wp2
                go_loopg [13, 71] kj24 (fun kq v13 v71 w' => ∃ (x13_4 : ByteArray) (x71_4 : Int), v13 = .string x13_4 ∧ v71 = .int .i64 x71_4 ∧ Aside0 (styx_Entries.l2 kq a2 x13_4 x8_16 (x8_16.length : Int) x71_4 = some (r1, r2)) ∧ Aside0 (kq ≤ kj24) ∧ Aside0 (Kd.Q Kd.string 9 w' w.heap.size (fun _ => True) (.slice Ao35 x8_16.length co35) x8_16) ∧ Aside0 (Below w.heap.size w w'))
                case atStart => exact ⟨((⟨#[]⟩ : ByteArray)), (0), (by first | rfl | (simp; done) | (simp [*]; done)), (by first | rfl | (simp; done) | (simp [*]; done)), H', ⟨Nat.le_refl _⟩, ⟨by (with_reducible repeat (first | apply Kd.Q_alloc | apply Kd.Q_drewN | apply Kd.Q_drew)); exact HO_8.out⟩, ⟨by repeat (first | (with_reducible first | exact HB.out | apply below_alloc | apply pw_below_drewN | apply below_drew1) | exact HB.out)⟩⟩
                case round =>
                  clear H'
                  try clear c1
                  try clear p1
                  try clear q1
                  try clear hx1
                  try clear qi1
                  try clear c2
                  try clear p2
                  try clear q2
                  try clear c3
                  try clear c4
                  try clear c4b0
                  try clear c5
                  try clear c5b0
                  try clear c6
                  try clear c6b0
                  try clear p6
                  try clear c7
                  try clear c8
                  try clear c8b0
                  try clear c8b1
                  try clear c9
                  try clear p10
                  try clear q10
                  try clear hx10
                  try clear qi10
                  try clear p11
                  try clear q11
                  try clear hx11
                  try clear qi11
                  try clear c18
                  try clear c18b0
                  try clear c19
                  try clear c19b0
                  try clear c19b1
                  try clear c20
                  try clear c20b0
                  try clear c20b1
                  try clear c21
                  try clear c21b0
                  try clear c21b1
                  try clear c23
                  try clear q23
                  try clear c27
                  try clear c27b0
                  try clear c28
                  try clear c29
                  try clear c29b0
                  try clear c29b1
                  try clear c30
                  try clear c30b0
                  try clear c30b1
                  try clear c31
                  try clear c31b0
                  try clear hcz11_0
                  try clear hcz11_1
                  try clear hcz11_2
                  try clear hcz11_3
                  try clear hcz11_4
                  try clear hcz11_5
                  try clear hcz11_6
                  try clear hcz11_7
                  try clear hcz11_8
                  try clear hcz11_9
                  try clear hcz15_0
                  try clear hcz15_1
                  try clear hcz15_2
                  try clear hcz15_3
                  try clear hcz15_4
                  try clear hcz15_5
                  try clear hcz15_6
                  try clear hcz15_7
                  try clear hcz15_8
                  try clear hcz15_9
                  try clear hfz11_0
                  try clear hfz11_1
                  try clear hfz11_2
                  try clear hfz11_3
                  try clear hfz11_4
                  try clear hfz11_5
                  try clear hfz11_6
                  try clear hfz11_7
                  try clear hfz11_8
                  try clear hfz11_9
                  try clear hfz15_0
                  try clear hfz15_1
                  try clear hfz15_2
                  try clear hfz15_3
                  try clear hfz15_4
                  try clear hfz15_5
                  try clear hfz15_6
                  try clear hfz15_7
                  try clear hfz15_8
                  try clear hfz15_9
                  try clear hx101_0
                  try clear hx101_1
                  try clear hx101_2
                  try clear hx101_3
                  try clear hx101_4
                  try clear hx101_5
                  try clear hx101_6
                  try clear hx101_7
                  try clear hx101_8
                  try clear hx101_9
                  try clear hx108_0
                  try clear hx112_0
                  try clear p1
                  try clear p10
                  try clear p101
                  try clear p108
                  try clear p11
                  try clear p112
                  try clear p2
                  try clear p6
                  try clear q1
                  try clear q10
                  try clear q101
                  try clear q108
                  try clear q11
                  try clear q112
                  try clear q2
                  try clear q23
                  obtain ⟨x13_4, x71_4, rfl, rfl, HA, HK4, HO_69, HB⟩ := hrel
                  cases gk with
                  | zero => exact absurd HA.out (by simp [styx_Entries.l2])
                  | succ k4 =>
                    have H := HA.out
                    clear HA
                    simp only [styx_Entries.l2] at H
                    by_cases c36 : x71_4 < (x8_16.length : Int)
                    · rw [if_pos c36] at H
                      have c36b0 : decide (x71_4 < (x8_16.length : Int)) = true := decide_eq_true c36
                      clear c36
                      by_cases c37 : 0 ≤ x71_4
                      · rw [if_pos c37] at H
                        have c37b0 : decide (0 ≤ x71_4) = true := decide_eq_true c37
                        clear c37
                        by_cases c38 : x71_4 < (x8_16.length : Int)
                        · rw [if_pos c38] at H
                          have c38b0 : decide (x71_4 < (x8_16.length : Int)) = true := decide_eq_true c38
                          clear c38
                          by_cases c39 : (wrap64 ((x13_4.size : Int) + ((rdOf ByteArray.empty x8_16 x71_4).size : Int))) > a2
                          · rw [if_pos c39] at H
                            have c39b0 : decide (a2 < (wrap64 ((x13_4.size : Int) + ((rdOf ByteArray.empty x8_16 x71_4).size : Int)))) = true := decide_eq_true c39
                            clear c39
                            simp only [Option.some.injEq, Prod.mk.injEq] at H
                            obtain ⟨rfl, rfl⟩ := H
                            have p113 : 0 ≤ (x71_4 : Int) := of_decide_eq_true (by first | (with_reducible assumption) | assumption)
                            have q113 : x71_4 < (x8_16.length : Int) := of_decide_eq_true (by first | (with_reducible assumption) | assumption)
                            obtain ⟨ad113, e113, hx113_0⟩ := Kd.at_string (Kd.Q_reads' HO_69.out).2.2 x71_4 p113 q113
                            cases e113
                            replace p113 := eq_true p113
                            replace q113 := eq_true q113
                            go_wp2
                            go_ret2
                            exact ⟨by first | rfl | (simp [errW_none, errW_some] <;> rfl) | (simp [*, errW_none, errW_some] <;> rfl), by repeat (first | (with_reducible first | exact HB.out | apply below_alloc | apply pw_below_drewN | apply below_drew1) | exact HB.out)⟩
                          · rw [if_neg c39] at H
                            have c39b0 : decide (a2 < (wrap64 ((x13_4.size : Int) + ((rdOf ByteArray.empty x8_16 x71_4).size : Int)))) = false := decide_eq_false c39
                            clear c39
                            by_cases c40 : x13_4.size + (rdOf ByteArray.empty x8_16 x71_4).size ≤ 9223372036854775807
                            · rw [if_pos c40] at H
                              have c40b0 := eq_true c40
                              have c40b1 : decide (x13_4.size + (rdOf ByteArray.empty x8_16 x71_4).size ≤ 9223372036854775807) = true := decide_eq_true c40
                              try have c39b0x := c39b0
                              try rw [show wrap64 ((x13_4.size : Int) + ((rdOf ByteArray.empty x8_16 x71_4).size : Int)) = (x13_4.size : Int) + ((rdOf ByteArray.empty x8_16 x71_4).size : Int) by unfold wrap64; omega] at c39b0x
                              try have c39b0x := c39b0
                              try rw [show wrap64 ((x13_4.size : Int) + ((rdOf ByteArray.empty x8_16 x71_4).size : Int)) = (x13_4.size : Int) + ((rdOf ByteArray.empty x8_16 x71_4).size : Int) by unfold wrap64; omega] at c39b0x
                              try have c40b2 : (9223372036854775807 < x13_4.size + (rdOf ByteArray.empty x8_16 x71_4).size) = False := eq_false (Nat.not_lt.2 c40)
                              try have c40b3 : (9223372036854775807 < x13_4.size + (rdOf ByteArray.empty x8_16 x71_4).size) = False := eq_false (by have h_ := c40; simp only [ByteArray.size_append] at h_; omega)
                              have H' := Aside0.mk H
                              clear H
                              have p113 : 0 ≤ (x71_4 : Int) := of_decide_eq_true (by first | (with_reducible assumption) | assumption)
                              have q113 : x71_4 < (x8_16.length : Int) := of_decide_eq_true (by first | (with_reducible assumption) | assumption)
                              obtain ⟨ad113, e113, hx113_0⟩ := Kd.at_string (Kd.Q_reads' HO_69.out).2.2 x71_4 p113 q113
                              cases e113
                              replace p113 := eq_true p113
                              replace q113 := eq_true q113
                              go_wp2
                              go_roundg k4
                              case measure => have := HK1.out; have := HJ16.out; have := HJ24.out; have := HK4.out; omega
                              case rel => exact ⟨(x13_4 ++ (rdOf ByteArray.empty x8_16 x71_4)), (wrap64 (x71_4 + 1)), (by first | rfl | (simp; done) | (simp [*]; done)), (by first | rfl | (simp; done) | (simp [*]; done)), H', ⟨by have := HK1.out; have := HJ16.out; have := HJ24.out; have := HK4.out; omega⟩, ⟨by (with_reducible repeat (first | apply Kd.Q_alloc | apply Kd.Q_drewN | apply Kd.Q_drew)); exact HO_69.out⟩, ⟨by repeat (first | (with_reducible first | exact HB.out | apply below_alloc | apply pw_below_drewN | apply below_drew1) | exact HB.out)⟩⟩
                            · rw [if_neg c40] at H
                              exact absurd H (by simp)
                        · rw [if_neg c38] at H
                          exact absurd H (by simp)
                      · rw [if_neg c37] at H
                        exact absurd H (by simp)
                    · rw [if_neg c36] at H
                      have c36b0 : decide (x71_4 < (x8_16.length : Int)) = false := decide_eq_false c36
                      clear c36
                      simp only [Option.some.injEq, Prod.mk.injEq] at H
                      obtain ⟨rfl, rfl⟩ := H
                      go_wp2
                      go_ret2
                      exact ⟨by first | rfl | (simp [errW_none, errW_some] <;> rfl) | (simp [*, errW_none, errW_some] <;> rfl), by repeat (first | (with_reducible first | exact HB.out | apply below_alloc | apply pw_below_drewN | apply below_drew1) | exact HB.out)⟩

end Go.Proofs.YtflofpnagfoeeaaDoor.Q
