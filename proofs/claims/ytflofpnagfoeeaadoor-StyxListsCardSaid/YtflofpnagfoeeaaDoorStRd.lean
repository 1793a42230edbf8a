/- Readers of bytes (package wire). -/
import Derived.Test.YtflofpnagfoeeaaDoorStWr
import Derived.Laws.BitsLemmas
import Derived.Deep.RegionHeld3
import Derived.StillTailTactics
import Derived.Test.YtflofpnagfoeeaaDoorWLast
set_option linter.unusedSimpArgs false
set_option linter.unusedVariables false
namespace Go.Proofs.YtflofpnagfoeeaaDoor
open Go.RowKit Go.Proofs.YtflofpnagfoeeaaDoorW.PrintLast

/-- A reader in the block g: its string, the place, the error. -/
structure Rd (w : World) (g : Nat) (s : ByteArray) (i : Nat) (e : Int) : Prop where
  cells : w.heap[g]? = some (.cells #[.string s, .int .i64 i, .int .i64 e] 105 (0, 0))
  at_ : i ≤ s.size
  small : s.size ≤ 1000000000
section
variable {w w1 : World} {g : Nat} {s : ByteArray} {i : Nat} {e : Int}
theorem Rd.keep (h : Rd w g s i e) {F : Nat → Prop} (hu : Upd F w w1) (hF : ¬ F g) : Rd w1 g s i e := ⟨hu.block_eq hF h.cells, h.at_, h.small⟩
theorem Rd.fresh (h : Rd w g s i e) (hb : Below w.heap.size w w1) : Rd w1 g s i e := ⟨(hb.block g (blk_lt h.cells)).trans h.cells, h.at_, h.small⟩
theorem Rd.alloc (h : Rd w g s i e) (o : Obj) : Rd (w.alloc o) g s i e := ⟨blk_alloc h.cells, h.at_, h.small⟩
theorem Rd.drew (h : Rd w g s i e) : Rd w.drew g s i e := ⟨h.cells, h.at_, h.small⟩
theorem Rd.setAt (h : Rd w g s i e) (j : Nat) (hj : j ≤ s.size) : Rd (w.setCell ⟨g, 1, none⟩ (.int .i64 j)) g s j e ∧ Upd (fun k => k = g) w (w.setCell ⟨g, 1, none⟩ (.int .i64 j)) :=
  ⟨⟨(blk_set h.cells 1 _).trans rfl, hj, h.small⟩, (Upd.refl (fun k => k = g) w).setCell (p := ⟨g, 1, none⟩) rfl _⟩
theorem Rd.setErr (h : Rd w g s i e) (f : Int) : Rd (w.setCell ⟨g, 2, none⟩ (.int .i64 f)) g s i f ∧ Upd (fun k => k = g) w (w.setCell ⟨g, 2, none⟩ (.int .i64 f)) :=
  ⟨⟨(blk_set h.cells 2 _).trans rfl, h.at_, h.small⟩, (Upd.refl (fun k => k = g) w).setCell (p := ⟨g, 2, none⟩) rfl _⟩
theorem Rd.c0 (h : Rd w g s i e) : w.cell? ⟨g, 0, none⟩ = some (.string s) := (blk_cell h.cells 0).trans rfl
theorem Rd.c1 (h : Rd w g s i e) : w.cell? ⟨g, 1, none⟩ = some (.int .i64 i) := (blk_cell h.cells 1).trans rfl
theorem Rd.c2 (h : Rd w g s i e) : w.cell? ⟨g, 2, none⟩ = some (.int .i64 e) := (blk_cell h.cells 2).trans rfl
theorem Rd.f (h : Rd w g s i e) (j : Nat) : w.frozen? ⟨g, j, none⟩ = false := blk_frozen h.cells j
end
/-- What a call leaves that reads: its result v with an error; the reader. -/
def RdPost (g : Nat) (s : ByteArray) (v : Value) (er : Int) (j : Nat) (e' : Int) (w : World) (e : Ending) (w' : World) : Prop :=
  e = .returned (.tuple #[v, .int .i64 er]) ∧ Rd w' g s j e' ∧ Upd (fun k => k = g) w w'

set_option maxHeartbeats 1000000 in
theorem take_end {w : World} {g : Nat} {s : ByteArray} {i : Nat} (n : Nat) (h : Rd w g s i 0) (hn : s.size < i + n) (hn2 : n ≤ 1000000000) :
    Calls Tryd.prog 66 #[.pointer (some ⟨g, 0, none⟩), .int .i64 n] w (RdPost g s (.string ByteArray.empty) 16 i 0 w) := by
  have c0 := h.c0
  have c1 := h.c1
  have HS := Aside.mk h.small
  have HA := Aside.mk h.at_
  have hle : ¬ ((n : Int) ≤ (s.size : Int) - i) := by omega
  have hgt : (s.size : Int) - i < n := by omega
  have hw64 : wrap64 ((s.size : Int) - i) = (s.size : Int) - i := by have := HS.out; have := HA.out; unfold wrap64; omega
  have H := Aside.mk h
  clear h hle
  go_enter Tryd.func66, Tryd.ntmps66
  go_wp2
  refine start_ (n := 12) (S := fun w' => w'.cell? ⟨g, 0, none⟩ = some (.string s) ∧ w'.cell? ⟨g, 1, none⟩ = some (.int .i64 i)) (ds := []) #[false, false, false, false, false, false, false, false, false, false, false, false] (by kernel_rfl) rfl rfl ⟨c0, c1⟩ (fun hHeld => ?_)
  refine pure_ (i := 0) (N := some 7) (v := ?_) (a' := ?_) #[true, false, false, false, false, false, false, false, false, false, false, false] rfl rfl (by kernel_rfl) (fun _ _ _ h => h) (Or.inl ⟨by rfl, ?_⟩) ?_ ?_
  rotate_left
  · intro w'
    go_simp
    with_reducible rfl
  rotate_left
  · simp only [Act.put, List.setIfInBounds_toArray, List.set_cons_zero, List.set_cons_succ, i64_w, i32_w]
    rfl
  refine pure_ (i := 1) (N := some 8) (v := ?_) (a' := ?_) #[true, true, false, false, false, false, false, false, false, false, false, false] rfl rfl (by kernel_rfl) (fun _ _ _ h => h) (Or.inl ⟨by rfl, ?_⟩) ?_ ?_
  rotate_left
  · intro w'
    go_simp
    with_reducible rfl
  rotate_left
  · simp only [Act.put, List.setIfInBounds_toArray, List.set_cons_zero, List.set_cons_succ, i64_w, i32_w]
    rfl
  refine pure_ (i := 2) (N := some 9) (v := ?_) (a' := ?_) #[true, true, true, false, false, false, false, false, false, false, false, false] rfl rfl (by kernel_rfl) (fun _ _ _ h => h) (Or.inl ⟨by rfl, ?_⟩) ?_ ?_
  rotate_left
  · intro w'
    go_simp
    with_reducible rfl
  rotate_left
  · simp only [Act.put, List.setIfInBounds_toArray, List.set_cons_zero, List.set_cons_succ, i64_w, i32_w]
    rfl
  refine pure_ (i := 3) (N := some 10) (v := ?_) (a' := ?_) #[true, true, true, true, false, false, false, false, false, false, false, false] rfl rfl (by kernel_rfl) (fun _ _ _ h => h) (Or.inl ⟨by rfl, ?_⟩) ?_ ?_
  rotate_left
  · intro w'
    go_simp
    with_reducible rfl
  rotate_left
  · simp only [Act.put, List.setIfInBounds_toArray, List.set_cons_zero, List.set_cons_succ, i64_w, i32_w]
    rfl
  refine pure_ (i := 6) (N := some 13) (v := ?_) (a' := ?_) #[true, true, true, true, false, false, true, false, false, false, false, false] rfl rfl (by kernel_rfl) (fun _ _ _ h => h) (Or.inl ⟨by rfl, ?_⟩) ?_ ?_
  rotate_left
  · intro w'
    go_simp
    with_reducible rfl
  rotate_left
  · simp only [Act.put, List.setIfInBounds_toArray, List.set_cons_zero, List.set_cons_succ, i64_w, i32_w]
    rfl
  refine pure_ (i := 7) (N := some 14) (v := ?_) (a' := ?_) #[true, true, true, true, false, false, true, true, false, false, false, false] rfl rfl (by kernel_rfl) (fun _ _ _ h => h) (Or.inl ⟨by rfl, ?_⟩) ?_ ?_
  rotate_left
  · intro w'
    go_simp
    with_reducible rfl
  rotate_left
  · simp only [Act.put, List.setIfInBounds_toArray, List.set_cons_zero, List.set_cons_succ, i64_w, i32_w]
    rfl
  refine pure_ (i := 8) (N := some 15) (v := ?_) (a' := ?_) #[true, true, true, true, false, false, true, true, true, false, false, false] rfl rfl (by kernel_rfl) (fun _ _ _ h => h) (Or.inl ⟨by rfl, ?_⟩) ?_ ?_
  rotate_left
  · intro w'
    go_simp
    with_reducible rfl
  rotate_left
  · simp only [Act.put, List.setIfInBounds_toArray, List.set_cons_zero, List.set_cons_succ, i64_w, i32_w]
    rfl
  refine take_ (i := 4) (N := some 11) (v := ?_) (a' := ?_) #[true, true, true, true, true, false, true, true, true, false, false, false] rfl rfl (by kernel_rfl) (fun _ _ _ h => h) (Or.inl ⟨by rfl, ?_⟩) hHeld ?_ ?_
  rotate_left
  · rintro w' ⟨s0, s1⟩
    go_simp
    with_reducible rfl
  rotate_left
  · simp only [Act.put, List.setIfInBounds_toArray, List.set_cons_zero, List.set_cons_succ, i64_w, i32_w]
    rfl
  refine pure_ (i := 5) (N := some 12) (v := ?_) (a' := ?_) #[true, true, true, true, true, true, true, true, true, false, false, false] rfl rfl (by kernel_rfl) (fun _ _ _ h => h) (Or.inl ⟨by rfl, ?_⟩) ?_ ?_
  rotate_left
  · intro w'
    go_simp
    with_reducible rfl
  rotate_left
  · simp only [Act.put, List.setIfInBounds_toArray, List.set_cons_zero, List.set_cons_succ, i64_w, i32_w]
    rfl
  refine take_ (i := 9) (N := some 16) (v := ?_) (a' := ?_) #[true, true, true, true, true, true, true, true, true, true, false, false] rfl rfl (by kernel_rfl) (fun _ _ _ h => h) (Or.inl ⟨by rfl, ?_⟩) hHeld ?_ ?_
  rotate_left
  · rintro w' ⟨s0, s1⟩
    go_simp
    with_reducible rfl
  rotate_left
  · simp only [Act.put, List.setIfInBounds_toArray, List.set_cons_zero, List.set_cons_succ, i64_w, i32_w]
    rfl
  refine pure_ (i := 10) (N := some 17) (v := ?_) (a' := ?_) #[true, true, true, true, true, true, true, true, true, true, true, false] rfl rfl (by kernel_rfl) (fun _ _ _ h => h) (Or.inl ⟨by rfl, ?_⟩) ?_ ?_
  rotate_left
  · intro w'
    go_simp
    with_reducible rfl
  rotate_left
  · simp only [Act.put, List.setIfInBounds_toArray, List.set_cons_zero, List.set_cons_succ, i64_w, i32_w]
    rfl
  refine pure_ (i := 11) (N := some 18) (v := ?_) (a' := ?_) #[true, true, true, true, true, true, true, true, true, true, true, true] rfl rfl (by kernel_rfl) (fun _ _ _ h => h) (Or.inl ⟨by rfl, ?_⟩) ?_ ?_
  rotate_left
  · intro w'
    go_simp
    with_reducible rfl
  rotate_left
  · simp only [Act.put, List.setIfInBounds_toArray, List.set_cons_zero, List.set_cons_succ, i64_w, i32_w]
    rfl
  refine done_ (by kernel_rfl) ?_
  go_wp2
  go_ret2
  exact ⟨rfl, H.out.drew, (Upd.refl _ w).drew⟩
set_option maxHeartbeats 1000000 in
theorem take_some {w : World} {g : Nat} {s : ByteArray} {i : Nat} (n : Nat) (h : Rd w g s i 0) (hn : i + n ≤ s.size) :
    Calls Tryd.prog 66 #[.pointer (some ⟨g, 0, none⟩), .int .i64 n] w (RdPost g s (.string (s.extract i (i + n))) 0 (i + n) 0 w) := by
  have c0 := h.c0
  have c1 := h.c1
  have c0f := h.f 0
  have c1f := h.f 1
  have HS := Aside.mk h.small
  have HA := Aside.mk h.at_
  have hle : ¬ ((s.size : Int) - i < (n : Int)) := by omega
  have hw64 : wrap64 ((s.size : Int) - i) = (s.size : Int) - i := by have := HS.out; have := HA.out; unfold wrap64; omega
  have hw65 : wrap64 ((i : Int) + n) = ((i : Int) + n) := by have := HS.out; have := HA.out; unfold wrap64; omega
  have q0 : 0 ≤ (i : Int) + n := by omega
  have q1 : (i : Int) + n ≤ s.size := by omega
  have q2 : (i : Int) ≤ i + n := by omega
  have q3 : ((i : Int) + n).toNat = i + n := by omega
  have H := Aside.mk h
  clear h
  go_enter Tryd.func66, Tryd.ntmps66
  go_wp2
  refine start_ (n := 12) (S := fun w' => w'.cell? ⟨g, 0, none⟩ = some (.string s) ∧ w'.cell? ⟨g, 1, none⟩ = some (.int .i64 i)) (ds := []) #[false, false, false, false, false, false, false, false, false, false, false, false] (by kernel_rfl) rfl rfl ⟨c0, c1⟩ (fun hHeld => ?_)
  refine pure_ (i := 0) (N := some 7) (v := ?_) (a' := ?_) #[true, false, false, false, false, false, false, false, false, false, false, false] rfl rfl (by kernel_rfl) (fun _ _ _ h => h) (Or.inl ⟨by rfl, ?_⟩) ?_ ?_
  rotate_left
  · intro w'
    go_simp
    with_reducible rfl
  rotate_left
  · simp only [Act.put, List.setIfInBounds_toArray, List.set_cons_zero, List.set_cons_succ, i64_w, i32_w]
    rfl
  refine pure_ (i := 1) (N := some 8) (v := ?_) (a' := ?_) #[true, true, false, false, false, false, false, false, false, false, false, false] rfl rfl (by kernel_rfl) (fun _ _ _ h => h) (Or.inl ⟨by rfl, ?_⟩) ?_ ?_
  rotate_left
  · intro w'
    go_simp
    with_reducible rfl
  rotate_left
  · simp only [Act.put, List.setIfInBounds_toArray, List.set_cons_zero, List.set_cons_succ, i64_w, i32_w]
    rfl
  refine pure_ (i := 2) (N := some 9) (v := ?_) (a' := ?_) #[true, true, true, false, false, false, false, false, false, false, false, false] rfl rfl (by kernel_rfl) (fun _ _ _ h => h) (Or.inl ⟨by rfl, ?_⟩) ?_ ?_
  rotate_left
  · intro w'
    go_simp
    with_reducible rfl
  rotate_left
  · simp only [Act.put, List.setIfInBounds_toArray, List.set_cons_zero, List.set_cons_succ, i64_w, i32_w]
    rfl
  refine pure_ (i := 3) (N := some 10) (v := ?_) (a' := ?_) #[true, true, true, true, false, false, false, false, false, false, false, false] rfl rfl (by kernel_rfl) (fun _ _ _ h => h) (Or.inl ⟨by rfl, ?_⟩) ?_ ?_
  rotate_left
  · intro w'
    go_simp
    with_reducible rfl
  rotate_left
  · simp only [Act.put, List.setIfInBounds_toArray, List.set_cons_zero, List.set_cons_succ, i64_w, i32_w]
    rfl
  refine pure_ (i := 6) (N := some 13) (v := ?_) (a' := ?_) #[true, true, true, true, false, false, true, false, false, false, false, false] rfl rfl (by kernel_rfl) (fun _ _ _ h => h) (Or.inl ⟨by rfl, ?_⟩) ?_ ?_
  rotate_left
  · intro w'
    go_simp
    with_reducible rfl
  rotate_left
  · simp only [Act.put, List.setIfInBounds_toArray, List.set_cons_zero, List.set_cons_succ, i64_w, i32_w]
    rfl
  refine pure_ (i := 7) (N := some 14) (v := ?_) (a' := ?_) #[true, true, true, true, false, false, true, true, false, false, false, false] rfl rfl (by kernel_rfl) (fun _ _ _ h => h) (Or.inl ⟨by rfl, ?_⟩) ?_ ?_
  rotate_left
  · intro w'
    go_simp
    with_reducible rfl
  rotate_left
  · simp only [Act.put, List.setIfInBounds_toArray, List.set_cons_zero, List.set_cons_succ, i64_w, i32_w]
    rfl
  refine pure_ (i := 8) (N := some 15) (v := ?_) (a' := ?_) #[true, true, true, true, false, false, true, true, true, false, false, false] rfl rfl (by kernel_rfl) (fun _ _ _ h => h) (Or.inl ⟨by rfl, ?_⟩) ?_ ?_
  rotate_left
  · intro w'
    go_simp
    with_reducible rfl
  rotate_left
  · simp only [Act.put, List.setIfInBounds_toArray, List.set_cons_zero, List.set_cons_succ, i64_w, i32_w]
    rfl
  refine take_ (i := 4) (N := some 11) (v := ?_) (a' := ?_) #[true, true, true, true, true, false, true, true, true, false, false, false] rfl rfl (by kernel_rfl) (fun _ _ _ h => h) (Or.inl ⟨by rfl, ?_⟩) hHeld ?_ ?_
  rotate_left
  · rintro w' ⟨s0, s1⟩
    go_simp
    with_reducible rfl
  rotate_left
  · simp only [Act.put, List.setIfInBounds_toArray, List.set_cons_zero, List.set_cons_succ, i64_w, i32_w]
    rfl
  refine pure_ (i := 5) (N := some 12) (v := ?_) (a' := ?_) #[true, true, true, true, true, true, true, true, true, false, false, false] rfl rfl (by kernel_rfl) (fun _ _ _ h => h) (Or.inl ⟨by rfl, ?_⟩) ?_ ?_
  rotate_left
  · intro w'
    go_simp
    with_reducible rfl
  rotate_left
  · simp only [Act.put, List.setIfInBounds_toArray, List.set_cons_zero, List.set_cons_succ, i64_w, i32_w]
    rfl
  refine take_ (i := 9) (N := some 16) (v := ?_) (a' := ?_) #[true, true, true, true, true, true, true, true, true, true, false, false] rfl rfl (by kernel_rfl) (fun _ _ _ h => h) (Or.inl ⟨by rfl, ?_⟩) hHeld ?_ ?_
  rotate_left
  · rintro w' ⟨s0, s1⟩
    go_simp
    with_reducible rfl
  rotate_left
  · simp only [Act.put, List.setIfInBounds_toArray, List.set_cons_zero, List.set_cons_succ, i64_w, i32_w]
    rfl
  refine pure_ (i := 10) (N := some 17) (v := ?_) (a' := ?_) #[true, true, true, true, true, true, true, true, true, true, true, false] rfl rfl (by kernel_rfl) (fun _ _ _ h => h) (Or.inl ⟨by rfl, ?_⟩) ?_ ?_
  rotate_left
  · intro w'
    go_simp
    with_reducible rfl
  rotate_left
  · simp only [Act.put, List.setIfInBounds_toArray, List.set_cons_zero, List.set_cons_succ, i64_w, i32_w]
    rfl
  refine pure_ (i := 11) (N := some 18) (v := ?_) (a' := ?_) #[true, true, true, true, true, true, true, true, true, true, true, true] rfl rfl (by kernel_rfl) (fun _ _ _ h => h) (Or.inl ⟨by rfl, ?_⟩) ?_ ?_
  rotate_left
  · intro w'
    go_simp
    with_reducible rfl
  rotate_left
  · simp only [Act.put, List.setIfInBounds_toArray, List.set_cons_zero, List.set_cons_succ, i64_w, i32_w]
    rfl
  refine done_ (by kernel_rfl) ?_
  go_wp2
  refine start_ (n := 16) (S := fun w' => w'.cell? ⟨g, 0, none⟩ = some (.string s) ∧ w'.cell? ⟨g, 1, none⟩ = some (.int .i64 i)) (ds := []) #[false, false, false, false, false, false, false, false, false, false, false, false, false, false, false, false] (by kernel_rfl) rfl rfl ⟨c0, c1⟩ (fun hHeld => ?_)
  refine pure_ (i := 0) (N := some 19) (v := ?_) (a' := ?_) #[true, false, false, false, false, false, false, false, false, false, false, false, false, false, false, false] rfl rfl (by kernel_rfl) (fun _ _ _ h => h) (Or.inl ⟨by rfl, ?_⟩) ?_ ?_
  rotate_left
  · intro w'
    go_simp
    with_reducible rfl
  rotate_left
  · simp only [Act.put, List.setIfInBounds_toArray, List.set_cons_zero, List.set_cons_succ, i64_w, i32_w]
    rfl
  refine pure_ (i := 1) (N := some 20) (v := ?_) (a' := ?_) #[true, true, false, false, false, false, false, false, false, false, false, false, false, false, false, false] rfl rfl (by kernel_rfl) (fun _ _ _ h => h) (Or.inl ⟨by rfl, ?_⟩) ?_ ?_
  rotate_left
  · intro w'
    go_simp
    with_reducible rfl
  rotate_left
  · simp only [Act.put, List.setIfInBounds_toArray, List.set_cons_zero, List.set_cons_succ, i64_w, i32_w]
    rfl
  refine pure_ (i := 2) (N := some 21) (v := ?_) (a' := ?_) #[true, true, true, false, false, false, false, false, false, false, false, false, false, false, false, false] rfl rfl (by kernel_rfl) (fun _ _ _ h => h) (Or.inl ⟨by rfl, ?_⟩) ?_ ?_
  rotate_left
  · intro w'
    go_simp
    with_reducible rfl
  rotate_left
  · simp only [Act.put, List.setIfInBounds_toArray, List.set_cons_zero, List.set_cons_succ, i64_w, i32_w]
    rfl
  refine pure_ (i := 4) (N := some 23) (v := ?_) (a' := ?_) #[true, true, true, false, true, false, false, false, false, false, false, false, false, false, false, false] rfl rfl (by kernel_rfl) (fun _ _ _ h => h) (Or.inl ⟨by rfl, ?_⟩) ?_ ?_
  rotate_left
  · intro w'
    go_simp
    with_reducible rfl
  rotate_left
  · simp only [Act.put, List.setIfInBounds_toArray, List.set_cons_zero, List.set_cons_succ, i64_w, i32_w]
    rfl
  refine pure_ (i := 5) (N := some 24) (v := ?_) (a' := ?_) #[true, true, true, false, true, true, false, false, false, false, false, false, false, false, false, false] rfl rfl (by kernel_rfl) (fun _ _ _ h => h) (Or.inl ⟨by rfl, ?_⟩) ?_ ?_
  rotate_left
  · intro w'
    go_simp
    with_reducible rfl
  rotate_left
  · simp only [Act.put, List.setIfInBounds_toArray, List.set_cons_zero, List.set_cons_succ, i64_w, i32_w]
    rfl
  refine pure_ (i := 6) (N := some 25) (v := ?_) (a' := ?_) #[true, true, true, false, true, true, true, false, false, false, false, false, false, false, false, false] rfl rfl (by kernel_rfl) (fun _ _ _ h => h) (Or.inl ⟨by rfl, ?_⟩) ?_ ?_
  rotate_left
  · intro w'
    go_simp
    with_reducible rfl
  rotate_left
  · simp only [Act.put, List.setIfInBounds_toArray, List.set_cons_zero, List.set_cons_succ, i64_w, i32_w]
    rfl
  refine pure_ (i := 8) (N := some 27) (v := ?_) (a' := ?_) #[true, true, true, false, true, true, true, false, true, false, false, false, false, false, false, false] rfl rfl (by kernel_rfl) (fun _ _ _ h => h) (Or.inl ⟨by rfl, ?_⟩) ?_ ?_
  rotate_left
  · intro w'
    go_simp
    with_reducible rfl
  rotate_left
  · simp only [Act.put, List.setIfInBounds_toArray, List.set_cons_zero, List.set_cons_succ, i64_w, i32_w]
    rfl
  refine pure_ (i := 9) (N := some 28) (v := ?_) (a' := ?_) #[true, true, true, false, true, true, true, false, true, true, false, false, false, false, false, false] rfl rfl (by kernel_rfl) (fun _ _ _ h => h) (Or.inl ⟨by rfl, ?_⟩) ?_ ?_
  rotate_left
  · intro w'
    go_simp
    with_reducible rfl
  rotate_left
  · simp only [Act.put, List.setIfInBounds_toArray, List.set_cons_zero, List.set_cons_succ, i64_w, i32_w]
    rfl
  refine pure_ (i := 10) (N := some 29) (v := ?_) (a' := ?_) #[true, true, true, false, true, true, true, false, true, true, true, false, false, false, false, false] rfl rfl (by kernel_rfl) (fun _ _ _ h => h) (Or.inl ⟨by rfl, ?_⟩) ?_ ?_
  rotate_left
  · intro w'
    go_simp
    with_reducible rfl
  rotate_left
  · simp only [Act.put, List.setIfInBounds_toArray, List.set_cons_zero, List.set_cons_succ, i64_w, i32_w]
    rfl
  refine pure_ (i := 12) (N := some 31) (v := ?_) (a' := ?_) #[true, true, true, false, true, true, true, false, true, true, true, false, true, false, false, false] rfl rfl (by kernel_rfl) (fun _ _ _ h => h) (Or.inl ⟨by rfl, ?_⟩) ?_ ?_
  rotate_left
  · intro w'
    go_simp
    with_reducible rfl
  rotate_left
  · simp only [Act.put, List.setIfInBounds_toArray, List.set_cons_zero, List.set_cons_succ, i64_w, i32_w]
    rfl
  refine take_ (i := 3) (N := some 22) (v := ?_) (a' := ?_) #[true, true, true, true, true, true, true, false, true, true, true, false, true, false, false, false] rfl rfl (by kernel_rfl) (fun _ _ _ h => h) (Or.inl ⟨by rfl, ?_⟩) hHeld ?_ ?_
  rotate_left
  · rintro w' ⟨s0, s1⟩
    go_simp
    with_reducible rfl
  rotate_left
  · simp only [Act.put, List.setIfInBounds_toArray, List.set_cons_zero, List.set_cons_succ, i64_w, i32_w]
    rfl
  refine take_ (i := 7) (N := some 26) (v := ?_) (a' := ?_) #[true, true, true, true, true, true, true, true, true, true, true, false, true, false, false, false] rfl rfl (by kernel_rfl) (fun _ _ _ h => h) (Or.inl ⟨by rfl, ?_⟩) hHeld ?_ ?_
  rotate_left
  · rintro w' ⟨s0, s1⟩
    go_simp
    with_reducible rfl
  rotate_left
  · simp only [Act.put, List.setIfInBounds_toArray, List.set_cons_zero, List.set_cons_succ, i64_w, i32_w]
    rfl
  refine take_ (i := 11) (N := some 30) (v := ?_) (a' := ?_) #[true, true, true, true, true, true, true, true, true, true, true, true, true, false, false, false] rfl rfl (by kernel_rfl) (fun _ _ _ h => h) (Or.inl ⟨by rfl, ?_⟩) hHeld ?_ ?_
  rotate_left
  · rintro w' ⟨s0, s1⟩
    go_simp
    with_reducible rfl
  rotate_left
  · simp only [Act.put, List.setIfInBounds_toArray, List.set_cons_zero, List.set_cons_succ, i64_w, i32_w]
    rfl
  refine pure_ (i := 13) (N := some 32) (v := ?_) (a' := ?_) #[true, true, true, true, true, true, true, true, true, true, true, true, true, true, false, false] rfl rfl (by kernel_rfl) (fun _ _ _ h => h) (Or.inl ⟨by rfl, ?_⟩) ?_ ?_
  rotate_left
  · intro w'
    go_simp
    with_reducible rfl
  rotate_left
  · simp only [Act.put, List.setIfInBounds_toArray, List.set_cons_zero, List.set_cons_succ, i64_w, i32_w]
    rfl
  refine pure_ (i := 14) (N := some 33) (v := ?_) (a' := ?_) #[true, true, true, true, true, true, true, true, true, true, true, true, true, true, true, false] rfl rfl (by kernel_rfl) (fun _ _ _ h => h) (Or.inl ⟨by rfl, ?_⟩) ?_ ?_
  rotate_left
  · intro w'
    go_simp
    with_reducible rfl
  rotate_left
  · simp only [Act.put, List.setIfInBounds_toArray, List.set_cons_zero, List.set_cons_succ, i64_w, i32_w]
    rfl
  refine pure_ (i := 15) (N := some 6) (v := ?_) (a' := ?_) #[true, true, true, true, true, true, true, true, true, true, true, true, true, true, true, true] rfl rfl (by kernel_rfl) (fun _ _ _ h => h) (Or.inl ⟨by rfl, ?_⟩) ?_ ?_
  rotate_left
  · intro w'
    go_simp
    with_reducible rfl
  rotate_left
  · simp only [Act.put, List.setIfInBounds_toArray, List.set_cons_zero, List.set_cons_succ, i64_w, i32_w]
    rfl
  refine done_ (by kernel_rfl) ?_
  go_wp2
  go_ret2
  have h1 := (H.out.drew.drew).setAt (i + n) hn
  rw [Int.natCast_add] at h1
  exact ⟨rfl, h1.1, ((Upd.refl _ w).drew.drew).trans h1.2⟩

/-- The number of the k bytes from i on. -/
def leN (s : ByteArray) (i : Nat) : Nat → Int
  | 0 => 0
  | k + 1 => leN s i k + ((s.data.getD (i + k) 0).toNat : Int) * 2 ^ (8 * k)
theorem leN_bound (s : ByteArray) (i k : Nat) : 0 ≤ leN s i k ∧ leN s i k < 2 ^ (8 * k) := by
  induction k with
  | zero => simp [leN]
  | succ k ih =>
    have h1 : ((s.data.getD (i + k) 0).toNat : Int) ≤ 255 := by have := (s.data.getD (i + k) 0).toNat_lt; omega
    have h2 : (2 : Int) ^ (8 * (k + 1)) = 256 * 2 ^ (8 * k) := by rw [show 8 * (k + 1) = 8 * k + 8 by omega, Int.pow_add]; omega
    have h3 : (0 : Int) < 2 ^ (8 * k) := Int.pow_pos (by decide)
    have h4 : ((s.data.getD (i + k) 0).toNat : Int) * 2 ^ (8 * k) ≤ 255 * 2 ^ (8 * k) := Int.mul_le_mul_of_nonneg_right h1 (Int.le_of_lt h3)
    have h5 : 0 ≤ ((s.data.getD (i + k) 0).toNat : Int) * 2 ^ (8 * k) := Int.mul_nonneg (by omega) (Int.le_of_lt h3)
    simp only [leN]
    omega
theorem IntKind.wrap_u64 (n : Int) : IntKind.u64.wrap n = n % 18446744073709551616 := by simp [IntKind.wrap, IntKind.bits, IntKind.signed]
theorem wraps_u64 (n : Int) (h₀ : 0 ≤ n) (h₁ : n < 2 ^ 64) : IntKind.u64.wrap n = n := by rw [IntKind.wrap_u64]; omega
theorem u64_or (x y : Int) (j : Nat) (hj : j + 8 ≤ 64) (hx : 0 ≤ x ∧ x < 2 ^ j) (hy : 0 ≤ y ∧ y ≤ 255) : bits .or .u64 x (y * 2 ^ j) = x + y * 2 ^ j := by
  have p0 : (0 : Int) < 2 ^ j := Int.pow_pos (by decide)
  have p1 : (2 : Int) ^ j * 256 ≤ 2 ^ 64 := by
    have h1 : (2 : Int) ^ (j + 8) ≤ 2 ^ 64 := by exact_mod_cast Nat.pow_le_pow_right (by decide : 0 < 2) hj
    rw [Int.pow_add] at h1
    exact h1
  have h1 : 0 ≤ y * 2 ^ j := Int.mul_nonneg hy.1 (Int.le_of_lt p0)
  have h2 : y * 2 ^ j ≤ 255 * 2 ^ j := Int.mul_le_mul_of_nonneg_right hy.2 (Int.le_of_lt p0)
  have h3 : y * 2 ^ j < 2 ^ 64 := by omega
  have h4 : x < 2 ^ 64 := by omega
  have h5 := bits_join .u64 64 (by decide) wraps_u64 j (y * 2 ^ j) x h1 (by simp) h3 hx.1 hx.2 h4
  obtain ⟨a, ha⟩ := Int.eq_ofNat_of_zero_le hx.1
  obtain ⟨b, hb⟩ := Int.eq_ofNat_of_zero_le h1
  rw [hb] at h5 h3 ⊢
  rw [ha] at h5 h4 ⊢
  have ha' : a < 2 ^ 64 := by exact_mod_cast h4
  have hb' : b < 2 ^ 64 := by exact_mod_cast h3
  rw [(bits_nat .u64 64 (by decide) wraps_u64 b a hb' ha').2] at h5
  rw [(bits_nat .u64 64 (by decide) wraps_u64 a b ha' hb').2, Nat.or_comm, h5, Int.add_comm]

def rlitV (s : ByteArray) (i k : Nat) : Int := if s.size < i + k then 0 else leN s i k
def rlitE (s : ByteArray) (i k : Nat) : Int := if s.size < i + k then 16 else 0
def rlitI (s : ByteArray) (i k : Nat) : Nat := if s.size < i + k then i else i + k
theorem rlittle_end {w : World} {g : Nat} {s : ByteArray} {i : Nat} (n : Nat) (h : Rd w g s i 0) (hn : n = 1 ∨ n = 2 ∨ n = 4 ∨ n = 8) (hl : s.size < i + n) :
    Calls Tryd.prog 59 #[.pointer (some ⟨g, 0, none⟩), .int .i64 n] w (RdPost g s (.int .u64 0) 16 i 0 w) := by
  have HW := Aside.mk (width_ok (n : Int) w (by omega))
  have H := Aside.mk h
  have HL := Aside.mk hl
  have HN := Aside.mk (show n ≤ 8 by omega)
  clear h hl hn
  go_enter Tryd.func59, Tryd.ntmps59
  go_wp2_with (first | (go_at_call 51; refine (HW.out).mono ?_; rintro e w1 ⟨rfl, hb1⟩; have HB1 := Aside.mk hb1; clear hb1) | (go_at_call 66; refine (take_end n (H.out.fresh HB1.out) HL.out (by have := HN.out; omega)).mono ?_; rintro e w2 ⟨rfl, hr2, hu2⟩; have HR2 := Aside.mk hr2; have HU2 := Aside.mk hu2; clear hr2 hu2))
  refine wp_loop_rounds 1 ?_
  rw [rounds_succ]
  go_wp2
  go_ret2
  exact ⟨rfl, HR2.out, (Upd.of_fresh HB1.out).trans HU2.out⟩
theorem extract_getD (s : ByteArray) (i n k : Nat) (hk : k < n) (hn : i + n ≤ s.size) : (s.extract i (i + n)).data.getD k 0 = s.data.getD (i + k) 0 := by
  have h1 : i + k < s.data.size := by have : s.size = s.data.size := rfl; omega
  have h2 : k < (s.extract i (i + n)).data.size := by rw [ByteArray.data_extract, Array.size_extract]; have : s.size = s.data.size := rfl; omega
  rw [Array.getD_eq_getD_getElem?, Array.getD_eq_getD_getElem?, Array.getElem?_eq_getElem h2, Array.getElem?_eq_getElem h1]
  simp [ByteArray.data_extract, Array.getElem_extract]
set_option maxHeartbeats 1000000 in
theorem rlittle_some {w : World} {g : Nat} {s : ByteArray} {i : Nat} (n : Nat) (h : Rd w g s i 0) (hn : n = 1 ∨ n = 2 ∨ n = 4 ∨ n = 8) (hl : i + n ≤ s.size) :
    Calls Tryd.prog 59 #[.pointer (some ⟨g, 0, none⟩), .int .i64 n] w (RdPost g s (.int .u64 (leN s i n)) 0 (i + n) 0 w) := by
  have HW := Aside.mk (width_ok (n : Int) w (by omega))
  have H := Aside.mk h
  have HL := Aside.mk hl
  have HN := Aside.mk (show n ≤ 8 by omega)
  have HE := Aside.mk (extract_getD s i n)
  have HZ : Aside ((s.extract i (i + n)).size = n) := ⟨by rw [ByteArray.size_extract]; omega⟩
  have HT := Aside.mk (fun W hr => take_some (w := W) (g := g) (s := s) (i := i) n hr hl)
  clear h hl hn
  generalize s.extract i (i + n) = x at *
  go_enter Tryd.func59, Tryd.ntmps59
  go_wp2_with (first | (go_at_call 51; refine (HW.out).mono ?_; rintro e w1 ⟨rfl, hb1⟩; have HB1 := Aside.mk hb1; clear hb1) | (go_at_call 66; refine (HT.out _ (H.out.fresh HB1.out)).mono ?_; rintro e w2 ⟨rfl, hr2, hu2⟩; have HR2 := Aside.mk hr2; have HU2 := Aside.mk hu2; clear hr2 hu2))
  go_loop [8, 9, 21] (fun v _ j => ∃ k : Nat, k ≤ n ∧ j = .int .i64 k ∧ v = .int .u64 (leN s i k)) (fun _ _ j => n - (intOf j).toNat)
  case atStart => exact ⟨0, Nat.zero_le _, rfl, rfl⟩
  case round =>
    obtain ⟨k, hk, rfl, rfl⟩ := hrel
    by_cases hlt : k < n
    · have hx : k < x.size := by rw [HZ.out]; exact hlt
      have hk8 : k ≤ 7 := by have := HN.out; omega
      have e0 : IntKind.u64.wrap (x[k].toNat : Int) = x[k].toNat := by
        have := x[k].toNat_lt
        rw [IntKind.wrap_u64]; omega
      have e1 : wrap64 (8 * (k : Int)) = 8 * (k : Int) := by unfold wrap64; omega
      have e2 : 0 ≤ 8 * (k : Int) := by omega
      have e3 : ¬ 8 * (k : Int) < 0 := by omega
      have e4 : (8 * (k : Int)).toNat = 8 * k := by omega
      have e5 : 8 * (k : Int) ≤ 64 := by omega
      go_wp2
      refine ⟨⟨k + 1, by omega, by simp, ?_⟩, by simp [intOf]; omega⟩
      have hx2 : (x[k].toNat : Int) = ((s.data.getD (i + k) 0).toNat : Int) := by
        rw [← HE.out k hlt HL.out, Array.getD_eq_getD_getElem?, Array.getElem?_eq_getElem (by exact hx)]
        rfl
      have hy : (0 : Int) ≤ x[k].toNat ∧ (x[k].toNat : Int) ≤ 255 := by have := x[k].toNat_lt; omega
      have p0 : (0 : Int) < 2 ^ (8 * k) := Int.pow_pos (by decide)
      have p1 : (2 : Int) ^ (8 * k) * 256 ≤ 2 ^ 64 := by
        have h1 : (2 : Int) ^ (8 * k + 8) ≤ 2 ^ 64 := by exact_mod_cast Nat.pow_le_pow_right (by decide : 0 < 2) (by omega)
        rw [Int.pow_add] at h1
        exact h1
      have h1 : 0 ≤ (x[k].toNat : Int) * 2 ^ (8 * k) := Int.mul_nonneg hy.1 (Int.le_of_lt p0)
      have h2 : (x[k].toNat : Int) * 2 ^ (8 * k) ≤ 255 * 2 ^ (8 * k) := Int.mul_le_mul_of_nonneg_right hy.2 (Int.le_of_lt p0)
      rw [wraps_u64 _ h1 (by omega), u64_or _ _ (8 * k) (by omega) (leN_bound s i k) hy, hx2]
      rfl
    · have e : k = n := by omega
      subst e
      have hx : ¬ k < x.size := by rw [HZ.out]; omega
      go_wp2
      go_ret2
      exact ⟨rfl, HR2.out, (Upd.of_fresh HB1.out).trans HU2.out⟩
/- reading: the reader has stopped before; the closure answers; it fails. -/
theorem reading64_stopped {w : World} {g : Nat} {s : ByteArray} {i : Nat} {e : Int} (fv : Value) (h : Rd w g s i e) (he : e ≠ 0) :
    Calls Tryd.prog 57 #[.pointer (some ⟨g, 0, none⟩), fv] w (RdPost g s (.int .i64 0) e i e w) := by
  have c2 := h.c2
  have H := Aside.mk h
  clear h
  go_enter Tryd.func57, Tryd.ntmps57
  go_wp2
  go_region
  all_goals
    go_wp2
    go_ret2
    exact ⟨rfl, H.out.drew, (Upd.refl _ w).drew⟩
theorem little_ok {w : World} {g : Nat} {s : ByteArray} {i j : Nat} (p q : Value) (v : Int) (h : Rd w g s i 0) (hc : Calls Tryd.prog 58 #[p, q] w (RdPost g s (.int .i64 v) 0 j 0 w)) :
    Calls Tryd.prog 57 #[.pointer (some ⟨g, 0, none⟩), .func (.func 58) #[] #[p, q]] w (RdPost g s (.int .i64 v) 0 j 0 w) := by
  have c2 := h.c2
  have c1 := h.c1
  have H := Aside.mk h
  have HC := Aside.mk hc
  clear h hc
  go_enter Tryd.func57, Tryd.ntmps57
  go_wp2_with (go_at_call 58; refine HC.out.mono ?_; rintro e w1 ⟨rfl, hr1, hu1⟩; have HR1 := Aside.mk hr1; have HU1 := Aside.mk hu1; have f1 := hr1.f 1; have f2 := hr1.f 2; have d1 := hr1.c1; have d2 := hr1.c2; clear hr1 hu1)
  go_ret2
  exact ⟨rfl, HR1.out, HU1.out⟩
theorem little_bad {w : World} {g : Nat} {s : ByteArray} {i j : Nat} (p q : Value) (v : Int) (er : Int) (h : Rd w g s i 0) (hc : Calls Tryd.prog 58 #[p, q] w (RdPost g s (.int .i64 v) er j 0 w)) (her : er ≠ 0) :
    Calls Tryd.prog 57 #[.pointer (some ⟨g, 0, none⟩), .func (.func 58) #[] #[p, q]] w (RdPost g s (.int .i64 0) er i er w) := by
  have c2 := h.c2
  have c1 := h.c1
  have H := Aside.mk h
  have HC := Aside.mk hc
  clear h hc
  go_enter Tryd.func57, Tryd.ntmps57
  go_wp2_with (go_at_call 58; refine HC.out.mono ?_; rintro e w1 ⟨rfl, hr1, hu1⟩; have HR1 := Aside.mk hr1; have HU1 := Aside.mk hu1; have f1 := hr1.f 1; have f2 := hr1.f 2; have d1 := hr1.c1; have d2 := hr1.c2; clear hr1 hu1)
  go_ret2
  have h1 := HR1.out.setAt i H.out.at_
  have h2 := h1.1.setErr er
  exact ⟨rfl, h2.1, HU1.out.trans (h1.2.trans h2.2)⟩
theorem signed_ok {w : World} {g : Nat} {s : ByteArray} {i j : Nat} (p q : Value) (v : Int) (h : Rd w g s i 0) (hc : Calls Tryd.prog 111 #[p, q] w (RdPost g s (.int .i64 v) 0 j 0 w)) :
    Calls Tryd.prog 57 #[.pointer (some ⟨g, 0, none⟩), .func (.func 111) #[] #[p, q]] w (RdPost g s (.int .i64 v) 0 j 0 w) := by
  have c2 := h.c2
  have c1 := h.c1
  have H := Aside.mk h
  have HC := Aside.mk hc
  clear h hc
  go_enter Tryd.func57, Tryd.ntmps57
  go_wp2_with (go_at_call 111; refine HC.out.mono ?_; rintro e w1 ⟨rfl, hr1, hu1⟩; have HR1 := Aside.mk hr1; have HU1 := Aside.mk hu1; have f1 := hr1.f 1; have f2 := hr1.f 2; have d1 := hr1.c1; have d2 := hr1.c2; clear hr1 hu1)
  go_ret2
  exact ⟨rfl, HR1.out, HU1.out⟩
theorem signed_bad {w : World} {g : Nat} {s : ByteArray} {i j : Nat} (p q : Value) (v : Int) (er : Int) (h : Rd w g s i 0) (hc : Calls Tryd.prog 111 #[p, q] w (RdPost g s (.int .i64 v) er j 0 w)) (her : er ≠ 0) :
    Calls Tryd.prog 57 #[.pointer (some ⟨g, 0, none⟩), .func (.func 111) #[] #[p, q]] w (RdPost g s (.int .i64 0) er i er w) := by
  have c2 := h.c2
  have c1 := h.c1
  have H := Aside.mk h
  have HC := Aside.mk hc
  clear h hc
  go_enter Tryd.func57, Tryd.ntmps57
  go_wp2_with (go_at_call 111; refine HC.out.mono ?_; rintro e w1 ⟨rfl, hr1, hu1⟩; have HR1 := Aside.mk hr1; have HU1 := Aside.mk hu1; have f1 := hr1.f 1; have f2 := hr1.f 2; have d1 := hr1.c1; have d2 := hr1.c2; clear hr1 hu1)
  go_ret2
  have h1 := HR1.out.setAt i H.out.at_
  have h2 := h1.1.setErr er
  exact ⟨rfl, h2.1, HU1.out.trans (h1.2.trans h2.2)⟩
theorem readingS_stopped {w : World} {g : Nat} {s : ByteArray} {i : Nat} {e : Int} (fv : Value) (h : Rd w g s i e) (he : e ≠ 0) :
    Calls Tryd.prog 109 #[.pointer (some ⟨g, 0, none⟩), fv] w (RdPost g s (.string ByteArray.empty) e i e w) := by
  have c2 := h.c2
  have H := Aside.mk h
  clear h
  go_enter Tryd.func109, Tryd.ntmps109
  go_wp2
  go_region
  all_goals
    go_wp2
    go_ret2
    exact ⟨rfl, H.out.drew, (Upd.refl _ w).drew⟩
theorem raw_ok {w : World} {g : Nat} {s : ByteArray} {i j : Nat} (p q : Value) (v : ByteArray) (h : Rd w g s i 0) (hc : Calls Tryd.prog 110 #[p, q] w (RdPost g s (.string v) 0 j 0 w)) :
    Calls Tryd.prog 109 #[.pointer (some ⟨g, 0, none⟩), .func (.func 110) #[] #[p, q]] w (RdPost g s (.string v) 0 j 0 w) := by
  have c2 := h.c2
  have c1 := h.c1
  have H := Aside.mk h
  have HC := Aside.mk hc
  clear h hc
  go_enter Tryd.func109, Tryd.ntmps109
  go_wp2_with (go_at_call 110; refine HC.out.mono ?_; rintro e w1 ⟨rfl, hr1, hu1⟩; have HR1 := Aside.mk hr1; have HU1 := Aside.mk hu1; have f1 := hr1.f 1; have f2 := hr1.f 2; have d1 := hr1.c1; have d2 := hr1.c2; clear hr1 hu1)
  go_ret2
  exact ⟨rfl, HR1.out, HU1.out⟩
theorem raw_bad {w : World} {g : Nat} {s : ByteArray} {i j : Nat} (p q : Value) (v : ByteArray) (er : Int) (h : Rd w g s i 0) (hc : Calls Tryd.prog 110 #[p, q] w (RdPost g s (.string v) er j 0 w)) (her : er ≠ 0) :
    Calls Tryd.prog 109 #[.pointer (some ⟨g, 0, none⟩), .func (.func 110) #[] #[p, q]] w (RdPost g s (.string ByteArray.empty) er i er w) := by
  have c2 := h.c2
  have c1 := h.c1
  have H := Aside.mk h
  have HC := Aside.mk hc
  clear h hc
  go_enter Tryd.func109, Tryd.ntmps109
  go_wp2_with (go_at_call 110; refine HC.out.mono ?_; rintro e w1 ⟨rfl, hr1, hu1⟩; have HR1 := Aside.mk hr1; have HU1 := Aside.mk hu1; have f1 := hr1.f 1; have f2 := hr1.f 2; have d1 := hr1.c1; have d2 := hr1.c2; clear hr1 hu1)
  go_ret2
  have h1 := HR1.out.setAt i H.out.at_
  have h2 := h1.1.setErr er
  exact ⟨rfl, h2.1, HU1.out.trans (h1.2.trans h2.2)⟩
theorem readingB_stopped {w : World} {g : Nat} {s : ByteArray} {i : Nat} {e : Int} (fv : Value) (h : Rd w g s i e) (he : e ≠ 0) :
    Calls Tryd.prog 63 #[.pointer (some ⟨g, 0, none⟩), fv] w (RdPost g s (.bool false) e i e w) := by
  have c2 := h.c2
  have H := Aside.mk h
  clear h
  go_enter Tryd.func63, Tryd.ntmps63
  go_wp2
  go_region
  all_goals
    go_wp2
    go_ret2
    exact ⟨rfl, H.out.drew, (Upd.refl _ w).drew⟩
theorem end_ok {w : World} {g : Nat} {s : ByteArray} {i j : Nat} (p : Value) (v : Bool) (h : Rd w g s i 0) (hc : Calls Tryd.prog 64 #[p] w (RdPost g s (.bool v) 0 j 0 w)) :
    Calls Tryd.prog 63 #[.pointer (some ⟨g, 0, none⟩), .func (.func 64) #[] #[p]] w (RdPost g s (.bool v) 0 j 0 w) := by
  have c2 := h.c2
  have c1 := h.c1
  have H := Aside.mk h
  have HC := Aside.mk hc
  clear h hc
  go_enter Tryd.func63, Tryd.ntmps63
  go_wp2_with (go_at_call 64; refine HC.out.mono ?_; rintro e w1 ⟨rfl, hr1, hu1⟩; have HR1 := Aside.mk hr1; have HU1 := Aside.mk hu1; have f1 := hr1.f 1; have f2 := hr1.f 2; have d1 := hr1.c1; have d2 := hr1.c2; clear hr1 hu1)
  go_ret2
  exact ⟨rfl, HR1.out, HU1.out⟩
theorem end_bad {w : World} {g : Nat} {s : ByteArray} {i j : Nat} (p : Value) (v : Bool) (er : Int) (h : Rd w g s i 0) (hc : Calls Tryd.prog 64 #[p] w (RdPost g s (.bool v) er j 0 w)) (her : er ≠ 0) :
    Calls Tryd.prog 63 #[.pointer (some ⟨g, 0, none⟩), .func (.func 64) #[] #[p]] w (RdPost g s (.bool false) er i er w) := by
  have c2 := h.c2
  have c1 := h.c1
  have H := Aside.mk h
  have HC := Aside.mk hc
  clear h hc
  go_enter Tryd.func63, Tryd.ntmps63
  go_wp2_with (go_at_call 64; refine HC.out.mono ?_; rintro e w1 ⟨rfl, hr1, hu1⟩; have HR1 := Aside.mk hr1; have HU1 := Aside.mk hu1; have f1 := hr1.f 1; have f2 := hr1.f 2; have d1 := hr1.c1; have d2 := hr1.c2; clear hr1 hu1)
  go_ret2
  have h1 := HR1.out.setAt i H.out.at_
  have h2 := h1.1.setErr er
  exact ⟨rfl, h2.1, HU1.out.trans (h1.2.trans h2.2)⟩

/-- What Little answers of a reader at i with the error e. -/
def litV (s : ByteArray) (i : Nat) (e : Int) (k : Nat) : Int := if e = 0 ∧ i + k ≤ s.size then leN s i k else 0
def litE (s : ByteArray) (i : Nat) (e : Int) (k : Nat) : Int := if e = 0 then (if i + k ≤ s.size then 0 else 16) else e
def litI (s : ByteArray) (i : Nat) (e : Int) (k : Nat) : Nat := if e = 0 ∧ i + k ≤ s.size then i + k else i
def signed64 (n : Int) : Int := wrap64 n
def sgnV (s : ByteArray) (i : Nat) (e : Int) (k : Nat) : Int := if e = 0 ∧ i + k ≤ s.size then signed64 (leN s i k) else 0
def rawV (s : ByteArray) (i : Nat) (e : Int) (k : Nat) : ByteArray := if e = 0 ∧ i + k ≤ s.size then s.extract i (i + k) else ByteArray.empty
def endE (s : ByteArray) (i : Nat) (e : Int) : Int := if e = 0 then (if i < s.size then 2 else 0) else e

theorem leN_small (s : ByteArray) (i k : Nat) (hk : k ≤ 4) : 0 ≤ leN s i k ∧ leN s i k < 4294967296 := by
  have h1 := leN_bound s i k
  have h2 : (2 : Int) ^ (8 * k) ≤ 2 ^ 32 := by exact_mod_cast Nat.pow_le_pow_right (by decide : 0 < 2) (by omega)
  omega
/-- A block of one cell. -/
structure Box (w : World) (b : Nat) (v : Value) (T : TypeId) : Prop where
  cells : w.heap[b]? = some (.cells #[v] T (0, 0))
theorem Box.c {w : World} {b : Nat} {v : Value} {T : TypeId} (h : Box w b v T) : w.cell? ⟨b, 0, none⟩ = some v := (blk_cell h.cells 0).trans rfl
theorem Box.keep {w w1 : World} {b : Nat} {v : Value} {T : TypeId} (h : Box w b v T) {F : Nat → Prop} (hu : Upd F w w1) (hF : ¬ F b) : Box w1 b v T := ⟨hu.block_eq hF h.cells⟩
set_option maxHeartbeats 1000000 in
theorem Little1_ok {w : World} {g bx by_ : Nat} {s : ByteArray} {i : Nat} (k : Nat) (sz : Int) (hz : sz = k) (h : Rd w g s i 0) (hx : Box w bx (.pointer (some ⟨g, 0, none⟩)) 77) (hy : Box w by_ (.int .i64 sz) 3) (hk : k = 1 ∨ k = 2 ∨ k = 4) (hl : i + k ≤ s.size) :
    Calls Tryd.prog 58 #[.pointer (some ⟨bx, 0, none⟩), .pointer (some ⟨by_, 0, none⟩)] w (RdPost g s (.int .i64 (leN s i k)) 0 (i + k) 0 w) := by
  subst hz
  have cx := hx.c
  have cy := hy.c
  have HL := Aside.mk (rlittle_some k h (by omega) hl)
  have HB := Aside.mk (leN_small s i k (by omega))
  have e0 : IntKind.i64.wrap (leN s i k) = leN s i k := by rw [IntKind.wrap_i64]; have := HB.out; omega
  have e1 : ¬ leN s i k < 0 := by have := HB.out; omega
  clear h hx hy hk hl
  go_enter Tryd.func58, Tryd.ntmps58
  go_wp2_with (go_at_call 59; refine HL.out.mono ?_; rintro e w1 ⟨rfl, hr1, hu1⟩; have HR1 := Aside.mk hr1; have HU1 := Aside.mk hu1; clear hr1 hu1)
  go_ret2
  exact ⟨rfl, HR1.out, HU1.out⟩
set_option maxHeartbeats 1000000 in
theorem Signed1_ok {w : World} {g bx by_ : Nat} {s : ByteArray} {i : Nat} (h : Rd w g s i 0) (hx : Box w bx (.pointer (some ⟨g, 0, none⟩)) 77) (hy : Box w by_ (.int .i64 8) 3) (hl : i + 8 ≤ s.size) :
    Calls Tryd.prog 111 #[.pointer (some ⟨bx, 0, none⟩), .pointer (some ⟨by_, 0, none⟩)] w (RdPost g s (.int .i64 (signed64 (leN s i 8))) 0 (i + 8) 0 w) := by
  have cx := hx.c
  have cy := hy.c
  have HL := Aside.mk (show Calls Tryd.prog 59 #[.pointer (some ⟨g, 0, none⟩), .int .i64 8] w (RdPost g s _ _ _ _ w) from rlittle_some 8 h (by omega) hl)
  have HY := Aside.mk hy
  have HNE : by_ ≠ g := by
    rintro rfl
    have := hy.cells.symm.trans h.cells
    simp at this
  have HG := Aside.mk HNE
  have HB := Aside.mk (leN_bound s i 8)
  have e0 : IntKind.u64.wrap (leN s i 8) = leN s i 8 := by rw [IntKind.wrap_u64]; have := HB.out; omega
  clear h hx hy hl HNE
  go_enter Tryd.func111, Tryd.ntmps111
  go_wp2_with (go_at_call 59; refine HL.out.mono ?_; rintro e w1 ⟨rfl, hr1, hu1⟩; have HR1 := Aside.mk hr1; have HU1 := Aside.mk hu1; have cz := (HY.out.keep hu1 (fun h => HG.out h)).c; clear hr1 hu1)
  go_ret2
  exact ⟨rfl, HR1.out, HU1.out⟩
set_option maxHeartbeats 1000000 in
theorem Raw1_ok {w : World} {g bx by_ : Nat} {s : ByteArray} {i : Nat} (k : Nat) (h : Rd w g s i 0) (hx : Box w bx (.pointer (some ⟨g, 0, none⟩)) 77) (hy : Box w by_ (.int .i64 k) 3) (hk : k ≤ 1000000000) (hl : i + k ≤ s.size) :
    Calls Tryd.prog 110 #[.pointer (some ⟨by_, 0, none⟩), .pointer (some ⟨bx, 0, none⟩)] w (RdPost g s (.string (s.extract i (i + k))) 0 (i + k) 0 w) := by
  have cx := hx.c
  have cy := hy.c
  have HL := Aside.mk (take_some k h hl)
  have e1 : ¬ (k : Int) < 0 := by omega
  clear h hx hy hk hl
  go_enter Tryd.func110, Tryd.ntmps110
  go_wp2_with (go_at_call 66; refine HL.out.mono ?_; rintro e w1 ⟨rfl, hr1, hu1⟩; have HR1 := Aside.mk hr1; have HU1 := Aside.mk hu1; clear hr1 hu1)
  go_ret2
  exact ⟨rfl, HR1.out, HU1.out⟩
set_option maxHeartbeats 1000000 in
theorem End1_ok {w : World} {g bx : Nat} {s : ByteArray} {i : Nat} (h : Rd w g s i 0) (hx : Box w bx (.pointer (some ⟨g, 0, none⟩)) 77) (hl : ¬ i < s.size) :
    Calls Tryd.prog 64 #[.pointer (some ⟨bx, 0, none⟩)] w (RdPost g s (.bool true) 0 i 0 w) := by
  have cx := hx.c
  have c0 := h.c0
  have c1 := h.c1
  have H := Aside.mk h
  have hl2 : ¬ (i : Int) < s.size := by omega
  clear h hx hl
  go_enter Tryd.func64, Tryd.ntmps64
  go_wp2
  refine start_ (n := 10) (S := fun w' => w'.cell? ⟨g, 0, none⟩ = some (.string s) ∧ w'.cell? ⟨g, 1, none⟩ = some (.int .i64 i) ∧ w'.cell? ⟨bx, 0, none⟩ = some (.pointer (some ⟨g, 0, none⟩))) (ds := []) #[false, false, false, false, false, false, false, false, false, false] (by kernel_rfl) rfl rfl ⟨c0, c1, cx⟩ (fun hHeld => ?_)
  refine take_ (i := 0) (N := some 3) (v := ?_) (a' := ?_) #[true, false, false, false, false, false, false, false, false, false] rfl rfl (by kernel_rfl) (fun _ _ _ h => h) (Or.inl ⟨by rfl, ?_⟩) hHeld ?_ ?_
  rotate_left
  · rintro w' ⟨s0, s1, s2⟩
    go_simp
    with_reducible rfl
  rotate_left
  · simp only [Act.put, List.setIfInBounds_toArray, List.set_cons_zero, List.set_cons_succ, i64_w, i32_w]
    rfl
  refine pure_ (i := 1) (N := some 4) (v := ?_) (a' := ?_) #[true, true, false, false, false, false, false, false, false, false] rfl rfl (by kernel_rfl) (fun _ _ _ h => h) (Or.inl ⟨by rfl, ?_⟩) ?_ ?_
  rotate_left
  · intro w'
    go_simp
    with_reducible rfl
  rotate_left
  · simp only [Act.put, List.setIfInBounds_toArray, List.set_cons_zero, List.set_cons_succ, i64_w, i32_w]
    rfl
  refine pure_ (i := 2) (N := some 5) (v := ?_) (a' := ?_) #[true, true, true, false, false, false, false, false, false, false] rfl rfl (by kernel_rfl) (fun _ _ _ h => h) (Or.inl ⟨by rfl, ?_⟩) ?_ ?_
  rotate_left
  · intro w'
    go_simp
    with_reducible rfl
  rotate_left
  · simp only [Act.put, List.setIfInBounds_toArray, List.set_cons_zero, List.set_cons_succ, i64_w, i32_w]
    rfl
  refine take_ (i := 3) (N := some 6) (v := ?_) (a' := ?_) #[true, true, true, true, false, false, false, false, false, false] rfl rfl (by kernel_rfl) (fun _ _ _ h => h) (Or.inl ⟨by rfl, ?_⟩) hHeld ?_ ?_
  rotate_left
  · rintro w' ⟨s0, s1, s2⟩
    go_simp
    with_reducible rfl
  rotate_left
  · simp only [Act.put, List.setIfInBounds_toArray, List.set_cons_zero, List.set_cons_succ, i64_w, i32_w]
    rfl
  refine take_ (i := 4) (N := some 7) (v := ?_) (a' := ?_) #[true, true, true, true, true, false, false, false, false, false] rfl rfl (by kernel_rfl) (fun _ _ _ h => h) (Or.inl ⟨by rfl, ?_⟩) hHeld ?_ ?_
  rotate_left
  · rintro w' ⟨s0, s1, s2⟩
    go_simp
    with_reducible rfl
  rotate_left
  · simp only [Act.put, List.setIfInBounds_toArray, List.set_cons_zero, List.set_cons_succ, i64_w, i32_w]
    rfl
  refine pure_ (i := 5) (N := some 8) (v := ?_) (a' := ?_) #[true, true, true, true, true, true, false, false, false, false] rfl rfl (by kernel_rfl) (fun _ _ _ h => h) (Or.inl ⟨by rfl, ?_⟩) ?_ ?_
  rotate_left
  · intro w'
    go_simp
    with_reducible rfl
  rotate_left
  · simp only [Act.put, List.setIfInBounds_toArray, List.set_cons_zero, List.set_cons_succ, i64_w, i32_w]
    rfl
  refine pure_ (i := 6) (N := some 9) (v := ?_) (a' := ?_) #[true, true, true, true, true, true, true, false, false, false] rfl rfl (by kernel_rfl) (fun _ _ _ h => h) (Or.inl ⟨by rfl, ?_⟩) ?_ ?_
  rotate_left
  · intro w'
    go_simp
    with_reducible rfl
  rotate_left
  · simp only [Act.put, List.setIfInBounds_toArray, List.set_cons_zero, List.set_cons_succ, i64_w, i32_w]
    rfl
  refine take_ (i := 7) (N := some 10) (v := ?_) (a' := ?_) #[true, true, true, true, true, true, true, true, false, false] rfl rfl (by kernel_rfl) (fun _ _ _ h => h) (Or.inl ⟨by rfl, ?_⟩) hHeld ?_ ?_
  rotate_left
  · rintro w' ⟨s0, s1, s2⟩
    go_simp
    with_reducible rfl
  rotate_left
  · simp only [Act.put, List.setIfInBounds_toArray, List.set_cons_zero, List.set_cons_succ, i64_w, i32_w]
    rfl
  refine pure_ (i := 8) (N := some 11) (v := ?_) (a' := ?_) #[true, true, true, true, true, true, true, true, true, false] rfl rfl (by kernel_rfl) (fun _ _ _ h => h) (Or.inl ⟨by rfl, ?_⟩) ?_ ?_
  rotate_left
  · intro w'
    go_simp
    with_reducible rfl
  rotate_left
  · simp only [Act.put, List.setIfInBounds_toArray, List.set_cons_zero, List.set_cons_succ, i64_w, i32_w]
    rfl
  refine pure_ (i := 9) (N := some 12) (v := ?_) (a' := ?_) #[true, true, true, true, true, true, true, true, true, true] rfl rfl (by kernel_rfl) (fun _ _ _ h => h) (Or.inl ⟨by rfl, ?_⟩) ?_ ?_
  rotate_left
  · intro w'
    go_simp
    with_reducible rfl
  rotate_left
  · simp only [Act.put, List.setIfInBounds_toArray, List.set_cons_zero, List.set_cons_succ, i64_w, i32_w]
    rfl
  refine done_ (by kernel_rfl) ?_
  go_wp2
  go_ret2
  exact ⟨rfl, H.out.drew, (Upd.refl _ w).drew⟩
set_option maxHeartbeats 1000000 in
theorem Little1_bad {w : World} {g bx by_ : Nat} {s : ByteArray} {i : Nat} (k : Nat) (sz : Int) (hz : sz = k) (h : Rd w g s i 0) (hx : Box w bx (.pointer (some ⟨g, 0, none⟩)) 77) (hy : Box w by_ (.int .i64 sz) 3) (hk : k = 1 ∨ k = 2 ∨ k = 4) (hl : s.size < i + k) :
    Calls Tryd.prog 58 #[.pointer (some ⟨bx, 0, none⟩), .pointer (some ⟨by_, 0, none⟩)] w (RdPost g s (.int .i64 0) 16 i 0 w) := by
  subst hz
  have cx := hx.c
  have cy := hy.c
  have HL := Aside.mk (rlittle_end k h (by omega) hl)
  have HB := Aside.mk (leN_small s i k (by omega))
  have e0 : IntKind.i64.wrap (leN s i k) = leN s i k := by rw [IntKind.wrap_i64]; have := HB.out; omega
  have e1 : ¬ leN s i k < 0 := by have := HB.out; omega
  clear h hx hy hk hl
  go_enter Tryd.func58, Tryd.ntmps58
  go_wp2_with (go_at_call 59; refine HL.out.mono ?_; rintro e w1 ⟨rfl, hr1, hu1⟩; have HR1 := Aside.mk hr1; have HU1 := Aside.mk hu1; clear hr1 hu1)
  go_ret2
  exact ⟨rfl, HR1.out, HU1.out⟩
set_option maxHeartbeats 1000000 in
theorem Signed1_bad {w : World} {g bx by_ : Nat} {s : ByteArray} {i : Nat} (h : Rd w g s i 0) (hx : Box w bx (.pointer (some ⟨g, 0, none⟩)) 77) (hy : Box w by_ (.int .i64 8) 3) (hl : s.size < i + 8) :
    Calls Tryd.prog 111 #[.pointer (some ⟨bx, 0, none⟩), .pointer (some ⟨by_, 0, none⟩)] w (RdPost g s (.int .i64 0) 16 i 0 w) := by
  have cx := hx.c
  have cy := hy.c
  have HL := Aside.mk (show Calls Tryd.prog 59 #[.pointer (some ⟨g, 0, none⟩), .int .i64 8] w (RdPost g s _ _ _ _ w) from rlittle_end 8 h (by omega) hl)
  have HY := Aside.mk hy
  have HNE : by_ ≠ g := by
    rintro rfl
    have := hy.cells.symm.trans h.cells
    simp at this
  have HG := Aside.mk HNE
  have HB := Aside.mk (leN_bound s i 8)
  have e0 : IntKind.u64.wrap (leN s i 8) = leN s i 8 := by rw [IntKind.wrap_u64]; have := HB.out; omega
  clear h hx hy hl HNE
  go_enter Tryd.func111, Tryd.ntmps111
  go_wp2_with (go_at_call 59; refine HL.out.mono ?_; rintro e w1 ⟨rfl, hr1, hu1⟩; have HR1 := Aside.mk hr1; have HU1 := Aside.mk hu1; have cz := (HY.out.keep hu1 (fun h => HG.out h)).c; clear hr1 hu1)
  go_ret2
  exact ⟨rfl, HR1.out, HU1.out⟩
set_option maxHeartbeats 1000000 in
theorem Raw1_bad {w : World} {g bx by_ : Nat} {s : ByteArray} {i : Nat} (k : Nat) (h : Rd w g s i 0) (hx : Box w bx (.pointer (some ⟨g, 0, none⟩)) 77) (hy : Box w by_ (.int .i64 k) 3) (hk : k ≤ 1000000000) (hl : s.size < i + k) :
    Calls Tryd.prog 110 #[.pointer (some ⟨by_, 0, none⟩), .pointer (some ⟨bx, 0, none⟩)] w (RdPost g s (.string ByteArray.empty) 16 i 0 w) := by
  have cx := hx.c
  have cy := hy.c
  have HL := Aside.mk (take_end k h hl hk)
  have e1 : ¬ (k : Int) < 0 := by omega
  clear h hx hy hk hl
  go_enter Tryd.func110, Tryd.ntmps110
  go_wp2_with (go_at_call 66; refine HL.out.mono ?_; rintro e w1 ⟨rfl, hr1, hu1⟩; have HR1 := Aside.mk hr1; have HU1 := Aside.mk hu1; clear hr1 hu1)
  go_ret2
  exact ⟨rfl, HR1.out, HU1.out⟩
set_option maxHeartbeats 1000000 in
theorem End1_bad {w : World} {g bx : Nat} {s : ByteArray} {i : Nat} (h : Rd w g s i 0) (hx : Box w bx (.pointer (some ⟨g, 0, none⟩)) 77) (hl : i < s.size) :
    Calls Tryd.prog 64 #[.pointer (some ⟨bx, 0, none⟩)] w (RdPost g s (.bool false) 2 i 0 w) := by
  have cx := hx.c
  have c0 := h.c0
  have c1 := h.c1
  have H := Aside.mk h
  have hl2 : (i : Int) < s.size := by omega
  clear h hx hl
  go_enter Tryd.func64, Tryd.ntmps64
  go_wp2
  refine start_ (n := 10) (S := fun w' => w'.cell? ⟨g, 0, none⟩ = some (.string s) ∧ w'.cell? ⟨g, 1, none⟩ = some (.int .i64 i) ∧ w'.cell? ⟨bx, 0, none⟩ = some (.pointer (some ⟨g, 0, none⟩))) (ds := []) #[false, false, false, false, false, false, false, false, false, false] (by kernel_rfl) rfl rfl ⟨c0, c1, cx⟩ (fun hHeld => ?_)
  refine take_ (i := 0) (N := some 3) (v := ?_) (a' := ?_) #[true, false, false, false, false, false, false, false, false, false] rfl rfl (by kernel_rfl) (fun _ _ _ h => h) (Or.inl ⟨by rfl, ?_⟩) hHeld ?_ ?_
  rotate_left
  · rintro w' ⟨s0, s1, s2⟩
    go_simp
    with_reducible rfl
  rotate_left
  · simp only [Act.put, List.setIfInBounds_toArray, List.set_cons_zero, List.set_cons_succ, i64_w, i32_w]
    rfl
  refine pure_ (i := 1) (N := some 4) (v := ?_) (a' := ?_) #[true, true, false, false, false, false, false, false, false, false] rfl rfl (by kernel_rfl) (fun _ _ _ h => h) (Or.inl ⟨by rfl, ?_⟩) ?_ ?_
  rotate_left
  · intro w'
    go_simp
    with_reducible rfl
  rotate_left
  · simp only [Act.put, List.setIfInBounds_toArray, List.set_cons_zero, List.set_cons_succ, i64_w, i32_w]
    rfl
  refine pure_ (i := 2) (N := some 5) (v := ?_) (a' := ?_) #[true, true, true, false, false, false, false, false, false, false] rfl rfl (by kernel_rfl) (fun _ _ _ h => h) (Or.inl ⟨by rfl, ?_⟩) ?_ ?_
  rotate_left
  · intro w'
    go_simp
    with_reducible rfl
  rotate_left
  · simp only [Act.put, List.setIfInBounds_toArray, List.set_cons_zero, List.set_cons_succ, i64_w, i32_w]
    rfl
  refine take_ (i := 3) (N := some 6) (v := ?_) (a' := ?_) #[true, true, true, true, false, false, false, false, false, false] rfl rfl (by kernel_rfl) (fun _ _ _ h => h) (Or.inl ⟨by rfl, ?_⟩) hHeld ?_ ?_
  rotate_left
  · rintro w' ⟨s0, s1, s2⟩
    go_simp
    with_reducible rfl
  rotate_left
  · simp only [Act.put, List.setIfInBounds_toArray, List.set_cons_zero, List.set_cons_succ, i64_w, i32_w]
    rfl
  refine take_ (i := 4) (N := some 7) (v := ?_) (a' := ?_) #[true, true, true, true, true, false, false, false, false, false] rfl rfl (by kernel_rfl) (fun _ _ _ h => h) (Or.inl ⟨by rfl, ?_⟩) hHeld ?_ ?_
  rotate_left
  · rintro w' ⟨s0, s1, s2⟩
    go_simp
    with_reducible rfl
  rotate_left
  · simp only [Act.put, List.setIfInBounds_toArray, List.set_cons_zero, List.set_cons_succ, i64_w, i32_w]
    rfl
  refine pure_ (i := 5) (N := some 8) (v := ?_) (a' := ?_) #[true, true, true, true, true, true, false, false, false, false] rfl rfl (by kernel_rfl) (fun _ _ _ h => h) (Or.inl ⟨by rfl, ?_⟩) ?_ ?_
  rotate_left
  · intro w'
    go_simp
    with_reducible rfl
  rotate_left
  · simp only [Act.put, List.setIfInBounds_toArray, List.set_cons_zero, List.set_cons_succ, i64_w, i32_w]
    rfl
  refine pure_ (i := 6) (N := some 9) (v := ?_) (a' := ?_) #[true, true, true, true, true, true, true, false, false, false] rfl rfl (by kernel_rfl) (fun _ _ _ h => h) (Or.inl ⟨by rfl, ?_⟩) ?_ ?_
  rotate_left
  · intro w'
    go_simp
    with_reducible rfl
  rotate_left
  · simp only [Act.put, List.setIfInBounds_toArray, List.set_cons_zero, List.set_cons_succ, i64_w, i32_w]
    rfl
  refine take_ (i := 7) (N := some 10) (v := ?_) (a' := ?_) #[true, true, true, true, true, true, true, true, false, false] rfl rfl (by kernel_rfl) (fun _ _ _ h => h) (Or.inl ⟨by rfl, ?_⟩) hHeld ?_ ?_
  rotate_left
  · rintro w' ⟨s0, s1, s2⟩
    go_simp
    with_reducible rfl
  rotate_left
  · simp only [Act.put, List.setIfInBounds_toArray, List.set_cons_zero, List.set_cons_succ, i64_w, i32_w]
    rfl
  refine pure_ (i := 8) (N := some 11) (v := ?_) (a' := ?_) #[true, true, true, true, true, true, true, true, true, false] rfl rfl (by kernel_rfl) (fun _ _ _ h => h) (Or.inl ⟨by rfl, ?_⟩) ?_ ?_
  rotate_left
  · intro w'
    go_simp
    with_reducible rfl
  rotate_left
  · simp only [Act.put, List.setIfInBounds_toArray, List.set_cons_zero, List.set_cons_succ, i64_w, i32_w]
    rfl
  refine pure_ (i := 9) (N := some 12) (v := ?_) (a' := ?_) #[true, true, true, true, true, true, true, true, true, true] rfl rfl (by kernel_rfl) (fun _ _ _ h => h) (Or.inl ⟨by rfl, ?_⟩) ?_ ?_
  rotate_left
  · intro w'
    go_simp
    with_reducible rfl
  rotate_left
  · simp only [Act.put, List.setIfInBounds_toArray, List.set_cons_zero, List.set_cons_succ, i64_w, i32_w]
    rfl
  refine done_ (by kernel_rfl) ?_
  go_wp2
  go_ret2
  exact ⟨rfl, H.out.drew, (Upd.refl _ w).drew⟩

/-- Behind the boxes. -/
theorem boxes_upd {g : Nat} {w w1 : World} (o1 o2 : Obj) (h : Upd (fun k => k = g) ((w.alloc o1).alloc o2) w1) : Upd (fun k => k = g) w w1 := (((Upd.refl _ w).alloc o1).alloc o2).trans h
theorem box_upd {g : Nat} {w w1 : World} (o1 : Obj) (h : Upd (fun k => k = g) (w.alloc o1) w1) : Upd (fun k => k = g) w w1 := ((Upd.refl _ w).alloc o1).trans h
set_option maxHeartbeats 1000000 in
theorem RLittle_any {w : World} {g : Nat} {s : ByteArray} {i : Nat} {e : Int} (k : Nat) (sz : Int) (hz : sz = k) (hk : k = 1 ∨ k = 2 ∨ k = 4) (h : Rd w g s i e) :
    Calls Tryd.prog 47 #[.pointer (some ⟨g, 0, none⟩), .int .i64 sz] w (RdPost g s (.int .i64 (litV s i e k)) (litE s i e k) (litI s i e k) (litE s i e k) w) := by
  subst hz
  have HR := Aside.mk ((h.alloc (.cells #[.pointer (some ⟨g, 0, none⟩)] 77)).alloc (.cells #[.int .i64 k] 3))
  have HX : Aside (Box ((w.alloc (.cells #[.pointer (some ⟨g, 0, none⟩)] 77)).alloc (.cells #[.int .i64 k] 3)) w.heap.size (.pointer (some ⟨g, 0, none⟩)) 77) := ⟨⟨blk_alloc (by simpa using heap_alloc_new w _)⟩⟩
  have HY : Aside (Box ((w.alloc (.cells #[.pointer (some ⟨g, 0, none⟩)] 77)).alloc (.cells #[.int .i64 k] 3)) (w.heap.size + 1) (.int .i64 k) 3) := ⟨⟨by simpa using heap_alloc_new (w.alloc (.cells #[.pointer (some ⟨g, 0, none⟩)] 77)) (.cells #[.int .i64 k] 3)⟩⟩
  by_cases he : e = 0
  · subst he
    by_cases hl : i + k ≤ s.size
    · simp only [litV, litE, litI, if_true, true_and, hl, if_false]
      have HC := Aside.mk (little_ok _ _ _ HR.out (Little1_ok k _ rfl HR.out HX.out HY.out hk hl))
      clear h HR HX HY
      go_enter Tryd.func47, Tryd.ntmps47
      go_wp2_with (go_at_call 57; refine HC.out.mono ?_; rintro e1 w1 ⟨rfl, hr1, hu1⟩; replace hu1 := boxes_upd _ _ hu1; have HR1 := Aside.mk hr1; have HU1 := Aside.mk hu1; clear hr1 hu1)
      go_ret2
      exact ⟨rfl, HR1.out, HU1.out⟩
    · simp only [litV, litE, litI, if_true, true_and, hl, if_false]
      have HC := Aside.mk (little_bad _ _ 0 16 HR.out (Little1_bad k _ rfl HR.out HX.out HY.out hk (by omega)) (by decide))
      clear h HR HX HY
      go_enter Tryd.func47, Tryd.ntmps47
      go_wp2_with (go_at_call 57; refine HC.out.mono ?_; rintro e1 w1 ⟨rfl, hr1, hu1⟩; replace hu1 := boxes_upd _ _ hu1; have HR1 := Aside.mk hr1; have HU1 := Aside.mk hu1; clear hr1 hu1)
      go_ret2
      exact ⟨rfl, HR1.out, HU1.out⟩
  · simp only [litV, litE, litI, he, if_false, false_and]
    have HC := Aside.mk (fun fv => reading64_stopped fv HR.out he)
    clear h HR HX HY
    go_enter Tryd.func47, Tryd.ntmps47
    go_wp2_with (go_at_call 57; refine (HC.out _).mono ?_; rintro e1 w1 ⟨rfl, hr1, hu1⟩; replace hu1 := boxes_upd _ _ hu1; have HR1 := Aside.mk hr1; have HU1 := Aside.mk hu1; clear hr1 hu1)
    go_ret2
    exact ⟨rfl, HR1.out, HU1.out⟩
set_option maxHeartbeats 1000000 in
theorem RSigned_any {w : World} {g : Nat} {s : ByteArray} {i : Nat} {e : Int}  (h : Rd w g s i e) :
    Calls Tryd.prog 108 #[.pointer (some ⟨g, 0, none⟩), .int .i64 8] w (RdPost g s (.int .i64 (sgnV s i e 8)) (litE s i e 8) (litI s i e 8) (litE s i e 8) w) := by
  have HR := Aside.mk ((h.alloc (.cells #[.pointer (some ⟨g, 0, none⟩)] 77)).alloc (.cells #[.int .i64 8] 3))
  have HX : Aside (Box ((w.alloc (.cells #[.pointer (some ⟨g, 0, none⟩)] 77)).alloc (.cells #[.int .i64 8] 3)) w.heap.size (.pointer (some ⟨g, 0, none⟩)) 77) := ⟨⟨blk_alloc (by simpa using heap_alloc_new w _)⟩⟩
  have HY : Aside (Box ((w.alloc (.cells #[.pointer (some ⟨g, 0, none⟩)] 77)).alloc (.cells #[.int .i64 8] 3)) (w.heap.size + 1) (.int .i64 8) 3) := ⟨⟨by simpa using heap_alloc_new (w.alloc (.cells #[.pointer (some ⟨g, 0, none⟩)] 77)) (.cells #[.int .i64 8] 3)⟩⟩
  by_cases he : e = 0
  · subst he
    by_cases hl : i + 8 ≤ s.size
    · simp only [sgnV, litE, litI, if_true, true_and, hl, if_false]
      have HC := Aside.mk (signed_ok _ _ _ HR.out (Signed1_ok HR.out HX.out HY.out hl))
      clear h HR HX HY
      go_enter Tryd.func108, Tryd.ntmps108
      go_wp2_with (go_at_call 57; refine HC.out.mono ?_; rintro e1 w1 ⟨rfl, hr1, hu1⟩; replace hu1 := boxes_upd _ _ hu1; have HR1 := Aside.mk hr1; have HU1 := Aside.mk hu1; clear hr1 hu1)
      go_ret2
      exact ⟨rfl, HR1.out, HU1.out⟩
    · simp only [sgnV, litE, litI, if_true, true_and, hl, if_false]
      have HC := Aside.mk (signed_bad _ _ 0 16 HR.out (Signed1_bad HR.out HX.out HY.out (by omega)) (by decide))
      clear h HR HX HY
      go_enter Tryd.func108, Tryd.ntmps108
      go_wp2_with (go_at_call 57; refine HC.out.mono ?_; rintro e1 w1 ⟨rfl, hr1, hu1⟩; replace hu1 := boxes_upd _ _ hu1; have HR1 := Aside.mk hr1; have HU1 := Aside.mk hu1; clear hr1 hu1)
      go_ret2
      exact ⟨rfl, HR1.out, HU1.out⟩
  · simp only [sgnV, litE, litI, he, if_false, false_and]
    have HC := Aside.mk (fun fv => reading64_stopped fv HR.out he)
    clear h HR HX HY
    go_enter Tryd.func108, Tryd.ntmps108
    go_wp2_with (go_at_call 57; refine (HC.out _).mono ?_; rintro e1 w1 ⟨rfl, hr1, hu1⟩; replace hu1 := boxes_upd _ _ hu1; have HR1 := Aside.mk hr1; have HU1 := Aside.mk hu1; clear hr1 hu1)
    go_ret2
    exact ⟨rfl, HR1.out, HU1.out⟩
set_option maxHeartbeats 1000000 in
theorem RRaw_any {w : World} {g : Nat} {s : ByteArray} {i : Nat} {e : Int} (k : Nat) (hk : k ≤ 1000000000) (h : Rd w g s i e) :
    Calls Tryd.prog 107 #[.pointer (some ⟨g, 0, none⟩), .int .i64 k] w (RdPost g s (.string (rawV s i e k)) (litE s i e k) (litI s i e k) (litE s i e k) w) := by
  have HR := Aside.mk ((h.alloc (.cells #[.pointer (some ⟨g, 0, none⟩)] 77)).alloc (.cells #[.int .i64 k] 3))
  have HX : Aside (Box ((w.alloc (.cells #[.pointer (some ⟨g, 0, none⟩)] 77)).alloc (.cells #[.int .i64 k] 3)) w.heap.size (.pointer (some ⟨g, 0, none⟩)) 77) := ⟨⟨blk_alloc (by simpa using heap_alloc_new w _)⟩⟩
  have HY : Aside (Box ((w.alloc (.cells #[.pointer (some ⟨g, 0, none⟩)] 77)).alloc (.cells #[.int .i64 k] 3)) (w.heap.size + 1) (.int .i64 k) 3) := ⟨⟨by simpa using heap_alloc_new (w.alloc (.cells #[.pointer (some ⟨g, 0, none⟩)] 77)) (.cells #[.int .i64 k] 3)⟩⟩
  by_cases he : e = 0
  · subst he
    by_cases hl : i + k ≤ s.size
    · simp only [rawV, litE, litI, if_true, true_and, hl, if_false]
      have HC := Aside.mk (raw_ok _ _ _ HR.out (Raw1_ok k HR.out HX.out HY.out hk hl))
      clear h HR HX HY
      go_enter Tryd.func107, Tryd.ntmps107
      go_wp2_with (go_at_call 109; refine HC.out.mono ?_; rintro e1 w1 ⟨rfl, hr1, hu1⟩; replace hu1 := boxes_upd _ _ hu1; have HR1 := Aside.mk hr1; have HU1 := Aside.mk hu1; clear hr1 hu1)
      go_ret2
      exact ⟨rfl, HR1.out, HU1.out⟩
    · simp only [rawV, litE, litI, if_true, true_and, hl, if_false]
      have HC := Aside.mk (raw_bad _ _ ByteArray.empty 16 HR.out (Raw1_bad k HR.out HX.out HY.out hk (by omega)) (by decide))
      clear h HR HX HY
      go_enter Tryd.func107, Tryd.ntmps107
      go_wp2_with (go_at_call 109; refine HC.out.mono ?_; rintro e1 w1 ⟨rfl, hr1, hu1⟩; replace hu1 := boxes_upd _ _ hu1; have HR1 := Aside.mk hr1; have HU1 := Aside.mk hu1; clear hr1 hu1)
      go_ret2
      exact ⟨rfl, HR1.out, HU1.out⟩
  · simp only [rawV, litE, litI, he, if_false, false_and]
    have HC := Aside.mk (fun fv => readingS_stopped fv HR.out he)
    clear h HR HX HY
    go_enter Tryd.func107, Tryd.ntmps107
    go_wp2_with (go_at_call 109; refine (HC.out _).mono ?_; rintro e1 w1 ⟨rfl, hr1, hu1⟩; replace hu1 := boxes_upd _ _ hu1; have HR1 := Aside.mk hr1; have HU1 := Aside.mk hu1; clear hr1 hu1)
    go_ret2
    exact ⟨rfl, HR1.out, HU1.out⟩
set_option maxHeartbeats 1000000 in
theorem REnd_any {w : World} {g : Nat} {s : ByteArray} {i : Nat} {e : Int}  (h : Rd w g s i e) :
    Calls Tryd.prog 54 #[.pointer (some ⟨g, 0, none⟩)] w (fun en w' => en = .returned (.int .i64 (endE s i e)) ∧ Rd w' g s i (endE s i e) ∧ Upd (fun k => k = g) w w') := by
  have HR := Aside.mk (h.alloc (.cells #[.pointer (some ⟨g, 0, none⟩)] 77))
  have HX : Aside (Box (w.alloc (.cells #[.pointer (some ⟨g, 0, none⟩)] 77)) w.heap.size (.pointer (some ⟨g, 0, none⟩)) 77) := ⟨⟨by simpa using heap_alloc_new w _⟩⟩
  by_cases he : e = 0
  · subst he
    by_cases hl : ¬ i < s.size
    · simp only [endE, if_true, true_and, hl, if_false]
      have HC := Aside.mk (end_ok _ true HR.out (End1_ok HR.out HX.out hl))
      clear h HR HX
      go_enter Tryd.func54, Tryd.ntmps54
      go_wp2_with (go_at_call 63; refine HC.out.mono ?_; rintro e1 w1 ⟨rfl, hr1, hu1⟩; replace hu1 := box_upd _ hu1; have HR1 := Aside.mk hr1; have HU1 := Aside.mk hu1; clear hr1 hu1)
      go_ret
      exact ⟨rfl, HR1.out, HU1.out⟩
    · simp only [endE, if_true, Classical.not_not.1 hl, if_false]
      have HC := Aside.mk (end_bad _ false 2 HR.out (End1_bad HR.out HX.out (by omega)) (by decide))
      clear h HR HX
      go_enter Tryd.func54, Tryd.ntmps54
      go_wp2_with (go_at_call 63; refine HC.out.mono ?_; rintro e1 w1 ⟨rfl, hr1, hu1⟩; replace hu1 := box_upd _ hu1; have HR1 := Aside.mk hr1; have HU1 := Aside.mk hu1; clear hr1 hu1)
      go_ret
      exact ⟨rfl, HR1.out, HU1.out⟩
  · simp only [endE, he, if_false, false_and]
    have HC := Aside.mk (fun fv => readingB_stopped fv HR.out he)
    clear h HR HX
    go_enter Tryd.func54, Tryd.ntmps54
    go_wp2_with (go_at_call 63; refine (HC.out _).mono ?_; rintro e1 w1 ⟨rfl, hr1, hu1⟩; replace hu1 := box_upd _ hu1; have HR1 := Aside.mk hr1; have HU1 := Aside.mk hu1; clear hr1 hu1)
    go_ret
    exact ⟨rfl, HR1.out, HU1.out⟩
theorem NewReader_any (s : ByteArray) (w : World) :
    Calls Tryd.prog 35 #[.string s] w fun e w' => e = .returned (.pointer (some ⟨w.heap.size, 0, none⟩)) ∧ w' = w.alloc (.cells #[.string s, .int .i64 0, .int .i64 0] 105) := by
  go_enter Tryd.func35, Tryd.ntmps35
  go_wp2
  go_ret
  exact ⟨rfl, rfl⟩
theorem Rd.new (w : World) (s : ByteArray) (hs : s.size ≤ 1000000000) : Rd (w.alloc (.cells #[.string s, .int .i64 0, .int .i64 0] 105)) w.heap.size s 0 0 := ⟨by simpa using heap_alloc_new w _, Nat.zero_le _, hs⟩
end Go.Proofs.YtflofpnagfoeeaaDoor
