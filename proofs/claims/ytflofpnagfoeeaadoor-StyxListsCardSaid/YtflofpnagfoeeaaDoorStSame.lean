/- Same at the example; awake. -/
import Derived.Test.YtflofpnagfoeeaaDoorStDec
set_option linter.unusedSimpArgs false
set_option linter.unusedVariables false
namespace Go.Proofs.YtflofpnagfoeeaaDoor
open Go.RowKit Go.Proofs.YtflofpnagfoeeaaDoorW.PrintLast

set_option maxRecDepth 100000 in
set_option maxHeartbeats 1000000 in
theorem EqualStr_one (w : World) (g1 c1 g2 c2 : Nat) (x : ByteArray) (h1 : w.cell? ⟨g1, 0, none⟩ = some (.string x)) (h2 : w.cell? ⟨g2, 0, none⟩ = some (.string x)) :
    Calls Tryd.prog 39 #[.slice (some ⟨g1, 0, none⟩) 1 c1, .slice (some ⟨g2, 0, none⟩) 1 c2] w fun e w' => e = .returned (.bool true) ∧ Below w.heap.size w w' := by
  go_enter Tryd.func39, Tryd.ntmps39
  go_wp2
  refine wp_loop_rounds 2 ?_
  rw [rounds_succ]
  go_wp2
  go_region
  all_goals
    go_wp2
    rw [rounds_succ]
    go_wp2
    go_ret
    exact ⟨rfl, (Below.refl _ _).drew⟩
set_option maxRecDepth 100000 in
theorem EqualQid_none (w : World) :
    Calls Tryd.prog 40 #[.slice none 0 0, .slice none 0 0] w fun e w' => e = .returned (.bool true) ∧ Below w.heap.size w w' := by
  go_enter Tryd.func40, Tryd.ntmps40
  go_wp2
  refine wp_loop_rounds 1 ?_
  rw [rounds_succ]
  go_wp2
  go_ret
  exact ⟨rfl, Below.refl _ _⟩
set_option maxRecDepth 100000 in
set_option maxHeartbeats 4000000 in
theorem Same_walk (w : World) (g1 c1 g2 c2 : Nat) (x : ByteArray) (h1 : w.cell? ⟨g1, 0, none⟩ = some (.string x)) (h2 : w.cell? ⟨g2, 0, none⟩ = some (.string x)) :
    Calls Tryd.prog 16 #[.agg (exM 110 258 1 2 (.slice (some ⟨g1, 0, none⟩) 1 c1)).toArray, .agg (exM 110 258 1 2 (.slice (some ⟨g2, 0, none⟩) 1 c2)).toArray] w fun e w' => e = .returned (.bool true) ∧ Below w.heap.size w w' := by
  have HA := Aside.mk (blk_alloc (o' := .cells (exM 110 258 1 2 (.slice (some ⟨g2, 0, none⟩) 1 c2)).toArray 46) (blk_new w (.cells (exM 110 258 1 2 (.slice (some ⟨g1, 0, none⟩) 1 c1)).toArray 46)))
  have hb := blk_new (w.alloc (.cells (exM 110 258 1 2 (.slice (some ⟨g1, 0, none⟩) 1 c1)).toArray 46)) (.cells (exM 110 258 1 2 (.slice (some ⟨g2, 0, none⟩) 1 c2)).toArray 46)
  rw [World.size_alloc] at hb
  have HB := Aside.mk hb
  have HE := Aside.mk (EqualStr_one ((w.alloc (.cells (exM 110 258 1 2 (.slice (some ⟨g1, 0, none⟩) 1 c1)).toArray 46)).alloc (.cells (exM 110 258 1 2 (.slice (some ⟨g2, 0, none⟩) 1 c2)).toArray 46)) g1 c1 g2 c2 x
    (Upd.cell (F := fun _ => False) (((Upd.refl _ w).alloc _).alloc _) (p := ⟨g1, 0, none⟩) (fun h => h) h1) (Upd.cell (F := fun _ => False) (((Upd.refl _ w).alloc _).alloc _) (p := ⟨g2, 0, none⟩) (fun h => h) h2))
  clear hb h1 h2
  unfold exM msgCells at HA HB HE ⊢
  go_enter Tryd.func16, Tryd.ntmps16
  go_wp2_with (first | (go_at_call 39; refine HE.out.mono ?_; rintro e w1 ⟨rfl, hb1⟩; have A1 := Aside.mk ((hb1.block w.heap.size (by simp only [World.size_alloc]; omega)).trans HA.out); have B1 := Aside.mk ((hb1.block (w.heap.size + 1) (by simp only [World.size_alloc]; omega)).trans HB.out); have S1 := Aside.mk hb1; have k14 : w1.cell? ⟨w.heap.size, 14, none⟩ = some (.slice none 0 0) := (blk_cell A1.out 14).trans rfl; have m14 : w1.cell? ⟨w.heap.size + 1, 14, none⟩ = some (.slice none 0 0) := (blk_cell B1.out 14).trans rfl; clear hb1) | (go_at_call 40; refine (EqualQid_none w1).mono ?_; rintro e w2 ⟨rfl, hb1⟩; have S2 := Aside.mk hb1; have ha2 := (hb1.block w.heap.size (blk_lt A1.out)).trans A1.out; have hb2 := (hb1.block (w.heap.size + 1) (blk_lt B1.out)).trans B1.out; clear k14 m14 A1 B1; have k0 : w2.cell? ⟨w.heap.size, 0, none⟩ = some (.int .i64 110) := (blk_cell ha2 0).trans rfl; have m0 : w2.cell? ⟨w.heap.size + 1, 0, none⟩ = some (.int .i64 110) := (blk_cell hb2 0).trans rfl; have k1 : w2.cell? ⟨w.heap.size, 1, none⟩ = some (.int .i64 258) := (blk_cell ha2 1).trans rfl; have m1 : w2.cell? ⟨w.heap.size + 1, 1, none⟩ = some (.int .i64 258) := (blk_cell hb2 1).trans rfl; have k2 : w2.cell? ⟨w.heap.size, 2, none⟩ = some (.int .i64 1) := (blk_cell ha2 2).trans rfl; have m2 : w2.cell? ⟨w.heap.size + 1, 2, none⟩ = some (.int .i64 1) := (blk_cell hb2 2).trans rfl; have k3 : w2.cell? ⟨w.heap.size, 3, none⟩ = some (.int .i64 2) := (blk_cell ha2 3).trans rfl; have m3 : w2.cell? ⟨w.heap.size + 1, 3, none⟩ = some (.int .i64 2) := (blk_cell hb2 3).trans rfl; have k4 : w2.cell? ⟨w.heap.size, 4, none⟩ = some (.int .i64 0) := (blk_cell ha2 4).trans rfl; have m4 : w2.cell? ⟨w.heap.size + 1, 4, none⟩ = some (.int .i64 0) := (blk_cell hb2 4).trans rfl; have k5 : w2.cell? ⟨w.heap.size, 5, none⟩ = some (.int .i64 0) := (blk_cell ha2 5).trans rfl; have m5 : w2.cell? ⟨w.heap.size + 1, 5, none⟩ = some (.int .i64 0) := (blk_cell hb2 5).trans rfl; have k6 : w2.cell? ⟨w.heap.size, 6, none⟩ = some (.int .i64 0) := (blk_cell ha2 6).trans rfl; have m6 : w2.cell? ⟨w.heap.size + 1, 6, none⟩ = some (.int .i64 0) := (blk_cell hb2 6).trans rfl; have k7 : w2.cell? ⟨w.heap.size, 7, none⟩ = some (.int .i64 0) := (blk_cell ha2 7).trans rfl; have m7 : w2.cell? ⟨w.heap.size + 1, 7, none⟩ = some (.int .i64 0) := (blk_cell hb2 7).trans rfl; have k8 : w2.cell? ⟨w.heap.size, 8, none⟩ = some (.int .i64 0) := (blk_cell ha2 8).trans rfl; have m8 : w2.cell? ⟨w.heap.size + 1, 8, none⟩ = some (.int .i64 0) := (blk_cell hb2 8).trans rfl; have k9 : w2.cell? ⟨w.heap.size, 9, none⟩ = some (.string ⟨#[]⟩) := (blk_cell ha2 9).trans rfl; have m9 : w2.cell? ⟨w.heap.size + 1, 9, none⟩ = some (.string ⟨#[]⟩) := (blk_cell hb2 9).trans rfl; have k10 : w2.cell? ⟨w.heap.size, 10, none⟩ = some (.string ⟨#[]⟩) := (blk_cell ha2 10).trans rfl; have m10 : w2.cell? ⟨w.heap.size + 1, 10, none⟩ = some (.string ⟨#[]⟩) := (blk_cell hb2 10).trans rfl; have k11 : w2.cell? ⟨w.heap.size, 11, none⟩ = some (.string ⟨#[]⟩) := (blk_cell ha2 11).trans rfl; have m11 : w2.cell? ⟨w.heap.size + 1, 11, none⟩ = some (.string ⟨#[]⟩) := (blk_cell hb2 11).trans rfl; have k12 : w2.cell? ⟨w.heap.size, 12, none⟩ = some (.string ⟨#[]⟩) := (blk_cell ha2 12).trans rfl; have m12 : w2.cell? ⟨w.heap.size + 1, 12, none⟩ = some (.string ⟨#[]⟩) := (blk_cell hb2 12).trans rfl; have k13 : w2.cell? ⟨w.heap.size, 13, none⟩ = some (.slice (some ⟨g1, 0, none⟩) 1 c1) := (blk_cell ha2 13).trans rfl; have m13 : w2.cell? ⟨w.heap.size + 1, 13, none⟩ = some (.slice (some ⟨g2, 0, none⟩) 1 c2) := (blk_cell hb2 13).trans rfl; have k14 : w2.cell? ⟨w.heap.size, 14, none⟩ = some (.slice none 0 0) := (blk_cell ha2 14).trans rfl; have m14 : w2.cell? ⟨w.heap.size + 1, 14, none⟩ = some (.slice none 0 0) := (blk_cell hb2 14).trans rfl; have k15 : w2.cell? ⟨w.heap.size, 15, none⟩ = some (.string ⟨#[]⟩) := (blk_cell ha2 15).trans rfl; have m15 : w2.cell? ⟨w.heap.size + 1, 15, none⟩ = some (.string ⟨#[]⟩) := (blk_cell hb2 15).trans rfl; have k16 : w2.cell? ⟨w.heap.size, 16, none⟩ = some (.int .i64 0) := (blk_cell ha2 16).trans rfl; have m16 : w2.cell? ⟨w.heap.size + 1, 16, none⟩ = some (.int .i64 0) := (blk_cell hb2 16).trans rfl; have k17 : w2.cell? ⟨w.heap.size, 17, none⟩ = some (.int .i64 0) := (blk_cell ha2 17).trans rfl; have m17 : w2.cell? ⟨w.heap.size + 1, 17, none⟩ = some (.int .i64 0) := (blk_cell hb2 17).trans rfl; have k18 : w2.cell? ⟨w.heap.size, 18, none⟩ = some (.int .i64 0) := (blk_cell ha2 18).trans rfl; have m18 : w2.cell? ⟨w.heap.size + 1, 18, none⟩ = some (.int .i64 0) := (blk_cell hb2 18).trans rfl; have k19 : w2.cell? ⟨w.heap.size, 19, none⟩ = some (.int .i64 0) := (blk_cell ha2 19).trans rfl; have m19 : w2.cell? ⟨w.heap.size + 1, 19, none⟩ = some (.int .i64 0) := (blk_cell hb2 19).trans rfl; have k20 : w2.cell? ⟨w.heap.size, 20, none⟩ = some (.int .i64 0) := (blk_cell ha2 20).trans rfl; have m20 : w2.cell? ⟨w.heap.size + 1, 20, none⟩ = some (.int .i64 0) := (blk_cell hb2 20).trans rfl; have k21 : w2.cell? ⟨w.heap.size, 21, none⟩ = some (.int .i64 0) := (blk_cell ha2 21).trans rfl; have m21 : w2.cell? ⟨w.heap.size + 1, 21, none⟩ = some (.int .i64 0) := (blk_cell hb2 21).trans rfl; have k22 : w2.cell? ⟨w.heap.size, 22, none⟩ = some (.string ⟨#[]⟩) := (blk_cell ha2 22).trans rfl; have m22 : w2.cell? ⟨w.heap.size + 1, 22, none⟩ = some (.string ⟨#[]⟩) := (blk_cell hb2 22).trans rfl; have k23 : w2.cell? ⟨w.heap.size, 23, none⟩ = some (.string ⟨#[]⟩) := (blk_cell ha2 23).trans rfl; have m23 : w2.cell? ⟨w.heap.size + 1, 23, none⟩ = some (.string ⟨#[]⟩) := (blk_cell hb2 23).trans rfl; have k24 : w2.cell? ⟨w.heap.size, 24, none⟩ = some (.string ⟨#[]⟩) := (blk_cell ha2 24).trans rfl; have m24 : w2.cell? ⟨w.heap.size + 1, 24, none⟩ = some (.string ⟨#[]⟩) := (blk_cell hb2 24).trans rfl; have k25 : w2.cell? ⟨w.heap.size, 25, none⟩ = some (.string ⟨#[]⟩) := (blk_cell ha2 25).trans rfl; have m25 : w2.cell? ⟨w.heap.size + 1, 25, none⟩ = some (.string ⟨#[]⟩) := (blk_cell hb2 25).trans rfl; have k26 : w2.cell? ⟨w.heap.size, 26, none⟩ = some (.int .i64 0) := (blk_cell ha2 26).trans rfl; have m26 : w2.cell? ⟨w.heap.size + 1, 26, none⟩ = some (.int .i64 0) := (blk_cell hb2 26).trans rfl; clear hb1 ha2 hb2))
  go_ret
  refine ⟨rfl, ?_⟩
  have h2 : Below w.heap.size w ((w.alloc (.cells (exM 110 258 1 2 (.slice (some ⟨g1, 0, none⟩) 1 c1)).toArray 46)).alloc (.cells (exM 110 258 1 2 (.slice (some ⟨g2, 0, none⟩) 1 c2)).toArray 46)) := ((Below.refl _ _).alloc (Nat.le_refl _) _).alloc (by simp) _
  exact (h2.trans (S1.out.mono (by simp only [World.size_alloc]; omega))).trans (S2.out.mono (by have := S1.out.size; simp only [World.size_alloc] at this; omega))

theorem wpList_load_row_g {P : Program} {ops : Array Oper} {rest : List Oper} {o : Oper} {a : Act} {w : World} {Q : Exit → Act → World → Prop} (hgd : Region.wanted o (yielded ops a.tmps) = true) (ty : TypeId) (x : Operand) (ho : o.op = .load ty x)
    (g : Nat) (hx : a.eval x = .pointer (some ⟨g, 0, none⟩)) (t : TypeId) (cs : Array Value) (fr : Nat × Nat) (d : TypeDesc) (hg : w.heap[g]? = some (.cells cs t fr))
    (hu : P.underlying ty = some d) (hd : (match d with | .struct _ | .array _ _ => true | _ => false) = true) (hi : (P.info? ty).map (·.size) = some cs.size)
    (h : wpList P ops Q rest (a.put o.dst (.agg cs)) w) : wpList P ops Q (o :: rest) a w :=
  wpList_step fun K hK => by rw [if_pos hgd]; exact wp_load_row ty x ho g hx t cs fr d hg hu hd hi (hK _ _ h)
set_option maxRecDepth 100000 in
set_option maxHeartbeats 4000000 in
theorem awake_any {B : Nat} (w : World) (hW : WordsIn B w) :
    Calls Tryd.prog 5 #[] w fun e w' => e = .returned (.bool true) ∧ Below w.heap.size w w' := by
  have H1 := Aside.mk (Encode_clunk w hW)
  have H2 := Aside.mk (fun W (h : WordsIn B W) => Encode_error W h)
  have H3 := Aside.mk (fun W (h : WordsIn B W) => Decode_walk W h)
  have HW := Aside.mk hW
  clear hW
  unfold msgCells at H1 H2
  unfold exM exB msgCells at H3
  go_enter Tryd.func5, Tryd.ntmps5
  go_wp2_with (first | (go_at_call 14; refine H1.out.mono ?_; rintro e w1 ⟨rfl, h1⟩; have B1 := Aside.mk h1; clear h1 H1) | (go_at_call 14; refine (H2.out _ (HW.out.below B1.out)).mono ?_; rintro e w2 ⟨rfl, h1⟩; have B2 := Aside.mk h1; clear h1 H2) | (go_at_call 15; refine (H3.out _ ((HW.out.below B1.out).below B2.out)).mono ?_; rintro e w3 ⟨⟨g1, c1, rfl, h1, h2⟩, h3⟩; have B3 := Aside.mk h3; have C3 := Aside.mk h1; have G3 := Aside.mk h2; clear h1 h2 h3 H3) | (with_reducible refine wpList_store_row rfl 46 (.tmp 5) (.tmp 19) rfl w3.heap.size _ rfl rfl 46 #[.int .i64 0, .int .i64 0, .int .i64 0, .int .i64 0, .int .i64 0, .int .i64 0, .int .i64 0, .int .i64 0, .int .i64 0, .string ⟨#[]⟩, .string ⟨#[]⟩, .string ⟨#[]⟩, .string ⟨#[]⟩, .slice none 0 0, .slice none 0 0, .string ⟨#[]⟩, .int .i64 0, .int .i64 0, .int .i64 0, .int .i64 0, .int .i64 0, .int .i64 0, .string ⟨#[]⟩, .string ⟨#[]⟩, .string ⟨#[]⟩, .string ⟨#[]⟩, .int .i64 0] (blk_new w3 (.cells #[.int .i64 0, .int .i64 0, .int .i64 0, .int .i64 0, .int .i64 0, .int .i64 0, .int .i64 0, .int .i64 0, .int .i64 0, .string ⟨#[]⟩, .string ⟨#[]⟩, .string ⟨#[]⟩, .string ⟨#[]⟩, .slice none 0 0, .slice none 0 0, .string ⟨#[]⟩, .int .i64 0, .int .i64 0, .int .i64 0, .int .i64 0, .int .i64 0, .int .i64 0, .string ⟨#[]⟩, .string ⟨#[]⟩, .string ⟨#[]⟩, .string ⟨#[]⟩, .int .i64 0] 46)) (by as_aux_lemma => kernel_rfl) (by as_aux_lemma => kernel_rfl) (by as_aux_lemma => kernel_rfl) ?_; have N4 := Aside.mk (setRow_heap (w3.alloc (.cells #[.int .i64 0, .int .i64 0, .int .i64 0, .int .i64 0, .int .i64 0, .int .i64 0, .int .i64 0, .int .i64 0, .int .i64 0, .string ⟨#[]⟩, .string ⟨#[]⟩, .string ⟨#[]⟩, .string ⟨#[]⟩, .slice none 0 0, .slice none 0 0, .string ⟨#[]⟩, .int .i64 0, .int .i64 0, .int .i64 0, .int .i64 0, .int .i64 0, .int .i64 0, .string ⟨#[]⟩, .string ⟨#[]⟩, .string ⟨#[]⟩, .string ⟨#[]⟩, .int .i64 0] 46)) w3.heap.size _ #[.int .i64 110, .int .i64 258, .int .i64 1, .int .i64 2, .int .i64 0, .int .i64 0, .int .i64 0, .int .i64 0, .int .i64 0, .string ⟨#[]⟩, .string ⟨#[]⟩, .string ⟨#[]⟩, .string ⟨#[]⟩, .slice (some ⟨g1, 0, none⟩) 1 c1, .slice none 0 0, .string ⟨#[]⟩, .int .i64 0, .int .i64 0, .int .i64 0, .int .i64 0, .int .i64 0, .int .i64 0, .string ⟨#[]⟩, .string ⟨#[]⟩, .string ⟨#[]⟩, .string ⟨#[]⟩, .int .i64 0] _ _ (blk_new w3 (.cells #[.int .i64 0, .int .i64 0, .int .i64 0, .int .i64 0, .int .i64 0, .int .i64 0, .int .i64 0, .int .i64 0, .int .i64 0, .string ⟨#[]⟩, .string ⟨#[]⟩, .string ⟨#[]⟩, .string ⟨#[]⟩, .slice none 0 0, .slice none 0 0, .string ⟨#[]⟩, .int .i64 0, .int .i64 0, .int .i64 0, .int .i64 0, .int .i64 0, .int .i64 0, .string ⟨#[]⟩, .string ⟨#[]⟩, .string ⟨#[]⟩, .string ⟨#[]⟩, .int .i64 0] 46)))) | (refine wpList_load_row_g (by rfl) 46 (.tmp 5) rfl w3.heap.size rfl 46 _ (0, 0) _ N4.out Tryd.underlying46 rfl (by as_aux_lemma => kernel_rfl) ?_))
  have hlt : g1 < w3.heap.size := World.block_lt_of_cell? _ _ C3.out
  have u4 : Upd (fun k => w3.heap.size ≤ k) w3 ((w3.alloc (.cells #[.int .i64 0, .int .i64 0, .int .i64 0, .int .i64 0, .int .i64 0, .int .i64 0, .int .i64 0, .int .i64 0, .int .i64 0, .string ⟨#[]⟩, .string ⟨#[]⟩, .string ⟨#[]⟩, .string ⟨#[]⟩, .slice none 0 0, .slice none 0 0, .string ⟨#[]⟩, .int .i64 0, .int .i64 0, .int .i64 0, .int .i64 0, .int .i64 0, .int .i64 0, .string ⟨#[]⟩, .string ⟨#[]⟩, .string ⟨#[]⟩, .string ⟨#[]⟩, .int .i64 0] 46)).setRow w3.heap.size #[.int .i64 110, .int .i64 258, .int .i64 1, .int .i64 2, .int .i64 0, .int .i64 0, .int .i64 0, .int .i64 0, .int .i64 0, .string ⟨#[]⟩, .string ⟨#[]⟩, .string ⟨#[]⟩, .string ⟨#[]⟩, .slice (some ⟨g1, 0, none⟩) 1 c1, .slice none 0 0, .string ⟨#[]⟩, .int .i64 0, .int .i64 0, .int .i64 0, .int .i64 0, .int .i64 0, .int .i64 0, .string ⟨#[]⟩, .string ⟨#[]⟩, .string ⟨#[]⟩, .string ⟨#[]⟩, .int .i64 0]) := ((Upd.refl _ w3).alloc _).trans ⟨rfl, rfl, rfl, by simp, fun k hk hn => setRow_other _ _ _ _ (fun e => hn (by omega))⟩
  have hsz : ((w3.alloc (.cells #[.int .i64 0, .int .i64 0, .int .i64 0, .int .i64 0, .int .i64 0, .int .i64 0, .int .i64 0, .int .i64 0, .int .i64 0, .string ⟨#[]⟩, .string ⟨#[]⟩, .string ⟨#[]⟩, .string ⟨#[]⟩, .slice none 0 0, .slice none 0 0, .string ⟨#[]⟩, .int .i64 0, .int .i64 0, .int .i64 0, .int .i64 0, .int .i64 0, .int .i64 0, .string ⟨#[]⟩, .string ⟨#[]⟩, .string ⟨#[]⟩, .string ⟨#[]⟩, .int .i64 0] 46)).setRow w3.heap.size #[.int .i64 110, .int .i64 258, .int .i64 1, .int .i64 2, .int .i64 0, .int .i64 0, .int .i64 0, .int .i64 0, .int .i64 0, .string ⟨#[]⟩, .string ⟨#[]⟩, .string ⟨#[]⟩, .string ⟨#[]⟩, .slice (some ⟨g1, 0, none⟩) 1 c1, .slice none 0 0, .string ⟨#[]⟩, .int .i64 0, .int .i64 0, .int .i64 0, .int .i64 0, .int .i64 0, .int .i64 0, .string ⟨#[]⟩, .string ⟨#[]⟩, .string ⟨#[]⟩, .string ⟨#[]⟩, .int .i64 0]).heap.size = w3.heap.size + 1 := by simp
  have C4 := u4.cell (p := ⟨g1, 0, none⟩) (show ¬ w3.heap.size ≤ g1 by omega) C3.out
  have U4 := Aside.mk u4
  generalize (w3.alloc (.cells #[.int .i64 0, .int .i64 0, .int .i64 0, .int .i64 0, .int .i64 0, .int .i64 0, .int .i64 0, .int .i64 0, .int .i64 0, .string ⟨#[]⟩, .string ⟨#[]⟩, .string ⟨#[]⟩, .string ⟨#[]⟩, .slice none 0 0, .slice none 0 0, .string ⟨#[]⟩, .int .i64 0, .int .i64 0, .int .i64 0, .int .i64 0, .int .i64 0, .int .i64 0, .string ⟨#[]⟩, .string ⟨#[]⟩, .string ⟨#[]⟩, .string ⟨#[]⟩, .int .i64 0] 46)).setRow w3.heap.size #[.int .i64 110, .int .i64 258, .int .i64 1, .int .i64 2, .int .i64 0, .int .i64 0, .int .i64 0, .int .i64 0, .int .i64 0, .string ⟨#[]⟩, .string ⟨#[]⟩, .string ⟨#[]⟩, .string ⟨#[]⟩, .slice (some ⟨g1, 0, none⟩) 1 c1, .slice none 0 0, .string ⟨#[]⟩, .int .i64 0, .int .i64 0, .int .i64 0, .int .i64 0, .int .i64 0, .int .i64 0, .string ⟨#[]⟩, .string ⟨#[]⟩, .string ⟨#[]⟩, .string ⟨#[]⟩, .int .i64 0] = w4 at *
  have HS := Aside.mk (Same_walk (w4.alloc (.cells #[.string ⟨#[97]⟩] 9)) g1 c1 w4.heap.size 1 ⟨#[97]⟩ (Upd.cell (F := fun _ => False) ((Upd.refl _ w4).alloc _) (p := ⟨g1, 0, none⟩) (fun h => h) C4) (by simp))
  rw [hsz] at HS
  unfold exM msgCells at HS
  refine HS.out.mono ?_
  rintro e w5 ⟨rfl, h5⟩
  have B5 := Aside.mk h5
  have HZ := Aside.mk hsz
  clear C4 hlt u4 hsz h5 HS N4
  go_wp2_with fail
  go_ret
  refine ⟨rfl, ?_⟩
  have h1 := B1.out.trans (B2.out.mono B1.out.size)
  have h2 := h1.trans (B3.out.mono (Nat.le_trans B1.out.size B2.out.size))
  have h3 := h2.trans ((U4.out.below (Nat.le_refl _)).mono h2.size)
  have h4 : Below w.heap.size w (w4.alloc (.cells #[.string ⟨#[97]⟩] 9)) := h3.alloc h3.size _
  exact h4.trans (B5.out.mono h4.size)
end Go.Proofs.YtflofpnagfoeeaaDoor
