/- The visitor that reads (package styx). -/
import Derived.Test.YtflofpnagfoeeaaDoorStRd
import Derived.Test.YtflofpnagfoeeaaDoorStFld
set_option linter.unusedSimpArgs false
set_option linter.unusedVariables false
namespace Go.Proofs.YtflofpnagfoeeaaDoor
open Go.RowKit Go.Proofs.YtflofpnagfoeeaaDoorW.PrintLast

/-- What an input keeps. -/
structure RS where
  s : ByteArray
  i : Nat
  e : Int
  bad : Bool
  over : Bool
  cut : Bool
/-- An input in the block g, its reader in the block r. -/
structure InS (w : World) (g r : Nat) (q : RS) : Prop where
  rd : Rd w r q.s q.i q.e
  cells : w.heap[g]? = some (.cells #[.pointer (some ⟨r, 0, none⟩), .bool q.bad, .bool q.over, .bool q.cut] 80 (0, 0))
section
variable {w w1 : World} {g r b : Nat} {q : RS}
theorem InS.ne (h : InS w g r q) : g ≠ r := by
  rintro rfl
  have := h.cells.symm.trans h.rd.cells
  simp at this
theorem InS.keep (h : InS w g r q) {F : Nat → Prop} (hu : Upd F w w1) (hg : ¬ F g) (hr : ¬ F r) : InS w1 g r q := ⟨h.rd.keep hu hr, hu.block_eq hg h.cells⟩
theorem InS.alloc (h : InS w g r q) (o : Obj) : InS (w.alloc o) g r q := ⟨h.rd.alloc o, blk_alloc h.cells⟩
theorem InS.drew (h : InS w g r q) : InS w.drew g r q := ⟨h.rd.drew, h.cells⟩
theorem InS.setBad (h : InS w g r q) (v : Bool) : InS (w.setCell ⟨g, 1, none⟩ (.bool v)) g r { q with bad := v } :=
  ⟨h.rd.keep (F := fun k => k = g) ((Upd.refl (fun k => k = g) w).setCell (p := ⟨g, 1, none⟩) rfl _) (fun e => h.ne e.symm), (blk_set h.cells 1 _).trans rfl⟩
theorem InS.setOver (h : InS w g r q) (v : Bool) : InS (w.setCell ⟨g, 2, none⟩ (.bool v)) g r { q with over := v } :=
  ⟨h.rd.keep (F := fun k => k = g) ((Upd.refl (fun k => k = g) w).setCell (p := ⟨g, 2, none⟩) rfl _) (fun e => h.ne e.symm), (blk_set h.cells 2 _).trans rfl⟩
theorem InS.setCut (h : InS w g r q) (v : Bool) : InS (w.setCell ⟨g, 3, none⟩ (.bool v)) g r { q with cut := v } :=
  ⟨h.rd.keep (F := fun k => k = g) ((Upd.refl (fun k => k = g) w).setCell (p := ⟨g, 3, none⟩) rfl _) (fun e => h.ne e.symm), (blk_set h.cells 3 _).trans rfl⟩
/-- A store elsewhere. -/
theorem InS.other (h : InS w g r q) (hg : b ≠ g) (hr : b ≠ r) (off : Nat) (v : Value) : InS (w.setCell ⟨b, off, none⟩ v) g r q :=
  h.keep (F := fun k => k = b) ((Upd.refl (fun k => k = b) w).setCell (p := ⟨b, off, none⟩) rfl _) (fun e => hg e.symm) (fun e => hr e.symm)
end
theorem blk_set' {w : World} {b : Nat} {T : TypeId} {cs : List Value} (h : w.heap[b]? = some (.cells cs.toArray T (0, 0))) (off : Nat) (v : Value) : (w.setCell ⟨b, off, none⟩ v).heap[b]? = some (.cells (cs.set off v).toArray T (0, 0)) := by
  rw [blk_set h off]; simp
theorem blk_cell' {w : World} {b : Nat} {T : TypeId} {cs : List Value} (h : w.heap[b]? = some (.cells cs.toArray T (0, 0))) {off : Nat} {v : Value} (hv : cs[off]? = some v) : w.cell? ⟨b, off, none⟩ = some v := (blk_cell h off).trans (by simpa using hv)

/-- What a visit leaves: the input, the block into which it reads. -/
def InDone (w : World) (g r b : Nat) (T : TypeId) (cs : List Value) (q : RS) (e : Ending) (w' : World) : Prop :=
  e = .returned (.tuple #[]) ∧ InS w' g r q ∧ w'.heap[b]? = some (.cells cs.toArray T (0, 0)) ∧ Upd (fun k => k = g ∨ k = r ∨ k = b) w w'

def RS.lit (q : RS) (k : Nat) : RS := { q with i := litI q.s q.i q.e k, e := litE q.s q.i q.e k }
def RS.num (q : RS) (k : Nat) : RS := { q.lit k with cut := q.cut || (litE q.s q.i q.e k != 0) }
def RS.numV (q : RS) (k : Nat) : Int := litV q.s q.i q.e k
theorem InS.read {w w1 : World} {g r : Nat} {q : RS} {i : Nat} {e : Int} (h : InS w g r q) (hr : Rd w1 r q.s i e) (hu : Upd (fun k => k = r) w w1) : InS w1 g r { q with i := i, e := e } :=
  ⟨hr, hu.block_eq h.ne h.cells⟩

set_option maxHeartbeats 1000000 in
theorem Inum_any {w : World} {g r b off : Nat} {T : TypeId} {cs : List Value} {q : RS} (k : Nat) (sz : Int) (hz : sz = k) (hk : k = 1 ∨ k = 2 ∨ k = 4) (h : InS w g r q) (hb : w.heap[b]? = some (.cells cs.toArray T (0, 0))) (ho : off < cs.length) (hg : b ≠ g) (hr : b ≠ r) :
    Calls Tryd.prog 36 #[.pointer (some ⟨g, 0, none⟩), .pointer (some ⟨b, off, none⟩), .int .i64 sz] w (InDone w g r b T (cs.set off (.int .i64 (q.numV k))) (q.num k)) := by
  subst hz
  have c0 : w.cell? ⟨g, 0, none⟩ = some (.pointer (some ⟨r, 0, none⟩)) := (blk_cell h.cells 0).trans rfl
  have HL := Aside.mk (RLittle_any k k rfl hk h.rd)
  obtain ⟨u, hu⟩ : ∃ u, cs[off]? = some u := ⟨_, List.getElem?_eq_getElem ho⟩
  have HU := Aside.mk hu
  have H := Aside.mk h
  have HB := Aside.mk hb
  have HG := Aside.mk hg
  have HR := Aside.mk hr
  obtain ⟨cut, hcut⟩ : ∃ x, x = q.cut := ⟨_, rfl⟩
  have HC := Aside.mk hcut
  clear h hb ho hg hr hk hu hcut
  have fin : ∀ w1, Rd w1 r q.s (litI q.s q.i q.e k) (litE q.s q.i q.e k) → Upd (fun k => k = r) w w1 → InDone w g r b T (cs.set off (.int .i64 (q.numV k))) (q.num k) (.returned (.tuple #[])) ((w1.setCell ⟨b, off, none⟩ (.int .i64 (q.numV k))).setCell ⟨g, 3, none⟩ (.bool (cut || (litE q.s q.i q.e k != 0)))) := fun w1 h1 hu1 => by
    have h2 := ((H.out.read h1 hu1).other HG.out HR.out off (.int .i64 (q.numV k))).setCut (cut || (litE q.s q.i q.e k != 0))
    have h3 := hu1.block_eq (k := b) HR.out HB.out
    have h4 := blk_set' h3 off (.int .i64 (q.numV k))
    refine ⟨rfl, ?_, ?_, ?_⟩
    · rw [HC.out] at h2 ⊢; exact h2
    · exact (Below.heap_setCell _ _ _ _ HG.out).trans h4
    · exact ((hu1.mono (fun k hk => .inr (.inl hk))).setCell (p := ⟨b, off, none⟩) (.inr (.inr rfl)) _).setCell (p := ⟨g, 3, none⟩) (.inl rfl) _
  have Fin := Aside.mk fin
  clear fin
  unfold RS.numV at Fin
  have n1 : ¬ b = g := HG.out
  have n2 : ¬ g = b := fun e => HG.out e.symm
  cases cut
  all_goals
    simp only [Bool.true_or, Bool.false_or] at Fin
    go_enter Tryd.func36, Tryd.ntmps36
    go_wp2_with (go_at_call 47; refine HL.out.mono ?_; rintro e w1 ⟨rfl, hr1, hu1⟩; have HR1 := Aside.mk hr1; have HU1 := Aside.mk hu1; have k0 := hu1.block_eq (k := g) H.out.ne H.out.cells; have k1 : w1.cell? ⟨g, 3, none⟩ = some (.bool _) := (blk_cell k0 3).trans (by rw [← HC.out]; rfl); have k2 := blk_frozen k0 3; have k3 := hu1.block_eq (k := b) HR.out HB.out; have k4 := blk_cell' k3 HU.out; have k5 := blk_frozen k3 off; clear hr1 hu1 k0 k3)
    go_end0
    exact Fin.out _ HR1.out HU1.out

def RS.least (q : RS) (l : Int) : RS := { q.lit 8 with cut := q.cut || (litE q.s q.i q.e 8 != 0), bad := q.bad || decide (sgnV q.s q.i q.e 8 < l) }
def RS.leastV (q : RS) : Int := sgnV q.s q.i q.e 8
set_option maxRecDepth 100000 in
set_option maxHeartbeats 4000000 in
theorem Ileast_any {w : World} {g r b off : Nat} {T : TypeId} {cs : List Value} {q : RS} (l : Int) (h : InS w g r q) (hb : w.heap[b]? = some (.cells cs.toArray T (0, 0))) (ho : off < cs.length) (hg : b ≠ g) (hr : b ≠ r) :
    Calls Tryd.prog 105 #[.pointer (some ⟨g, 0, none⟩), .pointer (some ⟨b, off, none⟩), .int .i64 l] w (InDone w g r b T (cs.set off (.int .i64 q.leastV)) (q.least l)) := by
  have c0 : w.cell? ⟨g, 0, none⟩ = some (.pointer (some ⟨r, 0, none⟩)) := (blk_cell h.cells 0).trans rfl
  have HL := Aside.mk (RSigned_any h.rd)
  obtain ⟨u, hu⟩ : ∃ u, cs[off]? = some u := ⟨_, List.getElem?_eq_getElem ho⟩
  have HU := Aside.mk hu
  have H := Aside.mk h
  have HB := Aside.mk hb
  have HG := Aside.mk hg
  have HR := Aside.mk hr
  obtain ⟨cut, hcut⟩ : ∃ x, x = q.cut := ⟨_, rfl⟩
  obtain ⟨bad, hbad⟩ : ∃ x, x = q.bad := ⟨_, rfl⟩
  obtain ⟨er, her⟩ : ∃ x, x = litE q.s q.i q.e 8 := ⟨_, rfl⟩
  obtain ⟨nv, hnv⟩ : ∃ x, x = sgnV q.s q.i q.e 8 := ⟨_, rfl⟩
  have HC := Aside.mk hcut
  have HD := Aside.mk hbad
  rw [← her, ← hnv] at HL
  have EF : Aside (q.least l = { q with i := litI q.s q.i q.e 8, e := er, cut := cut || (er != 0), bad := bad || decide (nv < l) }) := ⟨by rw [hcut, hbad, her, hnv]; rfl⟩
  have EV : Aside (q.leastV = nv) := ⟨hnv.symm⟩
  rw [EF.out, EV.out]
  clear h hb ho hg hr hu hcut hbad her hnv
  have fin : ∀ w1, Rd w1 r q.s (litI q.s q.i q.e 8) er → Upd (fun k => k = r) w w1 → InDone w g r b T (cs.set off (.int .i64 nv)) { q with i := litI q.s q.i q.e 8, e := er, cut := cut || (er != 0), bad := bad || decide (nv < l) } (.returned (.tuple #[])) (((w1.setCell ⟨b, off, none⟩ (.int .i64 nv)).setCell ⟨g, 1, none⟩ (.bool (bad || decide (nv < l)))).setCell ⟨g, 3, none⟩ (.bool (cut || (er != 0)))).drew := fun w1 h1 hu1 => by
    have h2 := ((((H.out.read h1 hu1).other HG.out HR.out off (.int .i64 nv)).setBad (bad || decide (nv < l))).setCut (cut || (er != 0))).drew
    have h3 := hu1.block_eq (k := b) HR.out HB.out
    have h4 := blk_set' h3 off (.int .i64 nv)
    refine ⟨rfl, h2, ?_, ?_⟩
    · exact (Below.heap_setCell _ _ _ _ HG.out).trans ((Below.heap_setCell _ _ _ _ HG.out).trans h4)
    · exact ((((hu1.mono (fun k hk => .inr (.inl hk))).setCell (p := ⟨b, off, none⟩) (.inr (.inr rfl)) _).setCell (p := ⟨g, 1, none⟩) (.inl rfl) _).setCell (p := ⟨g, 3, none⟩) (.inl rfl) _).drew
  have Fin := Aside.mk fin
  clear fin
  have n1 : ¬ b = g := HG.out
  have n2 : ¬ g = b := fun e => HG.out e.symm
  cases bad <;> cases cut
  · simp only [Bool.true_or, Bool.false_or] at Fin
    go_enter Tryd.func105, Tryd.ntmps105
    go_wp2_with (go_at_call 108; refine HL.out.mono ?_; rintro e w1 ⟨rfl, hr1, hu1⟩; have HR1 := Aside.mk hr1; have HU1 := Aside.mk hu1; have k0 := hu1.block_eq (k := g) H.out.ne H.out.cells; rw [← HC.out, ← HD.out] at k0; have k1 : w1.cell? ⟨g, 1, none⟩ = some (.bool false) := (blk_cell k0 1).trans rfl; have k3 : w1.cell? ⟨g, 3, none⟩ = some (.bool false) := (blk_cell k0 3).trans rfl; have f1 := blk_frozen k0 1; have f3 := blk_frozen k0 3; have k4 := hu1.block_eq (k := b) HR.out HB.out; have k5 := blk_cell' k4 HU.out; have f5 := blk_frozen k4 off; clear hr1 hu1 k0 k4)
    refine start_ (n := 29) (S := fun w' => w'.cell? ⟨g, 1, none⟩ = some (.bool false) ∧ w'.cell? ⟨g, 3, none⟩ = some (.bool false) ∧ w'.cell? ⟨b, off, none⟩ = some u) (ds := [22, 25, 28]) #[false, false, false, false, false, false, false, false, false, false, false, false, false, false, false, false, false, false, false, false, false, false, false, false, false, false, false, false, false] (by kernel_rfl) rfl rfl ⟨k1, k3, k5⟩ (fun hHeld => ?_)
    refine pure_ (i := 0) (N := some 16) (v := ?_) (a' := ?_) #[true, false, false, false, false, false, false, false, false, false, false, false, false, false, false, false, false, false, false, false, false, false, false, false, false, false, false, false, false] rfl rfl (by kernel_rfl) (fun _ _ _ h => h) (Or.inl ⟨by rfl, ?_⟩) ?_ ?_
    rotate_left
    · intro w'
      go_simp
      with_reducible rfl
    rotate_left
    · simp only [Act.put, List.setIfInBounds_toArray, List.set_cons_zero, List.set_cons_succ, i64_w, i32_w]
      rfl
    refine pure_ (i := 1) (N := some 17) (v := ?_) (a' := ?_) #[true, true, false, false, false, false, false, false, false, false, false, false, false, false, false, false, false, false, false, false, false, false, false, false, false, false, false, false, false] rfl rfl (by kernel_rfl) (fun _ _ _ h => h) (Or.inl ⟨by rfl, ?_⟩) ?_ ?_
    rotate_left
    · intro w'
      go_simp
      with_reducible rfl
    rotate_left
    · simp only [Act.put, List.setIfInBounds_toArray, List.set_cons_zero, List.set_cons_succ, i64_w, i32_w]
      rfl
    refine pure_ (i := 2) (N := some 18) (v := ?_) (a' := ?_) #[true, true, true, false, false, false, false, false, false, false, false, false, false, false, false, false, false, false, false, false, false, false, false, false, false, false, false, false, false] rfl rfl (by kernel_rfl) (fun _ _ _ h => h) (Or.inl ⟨by rfl, ?_⟩) ?_ ?_
    rotate_left
    · intro w'
      go_simp
      with_reducible rfl
    rotate_left
    · simp only [Act.put, List.setIfInBounds_toArray, List.set_cons_zero, List.set_cons_succ, i64_w, i32_w]
      rfl
    refine pure_ (i := 3) (N := some 19) (v := ?_) (a' := ?_) #[true, true, true, true, false, false, false, false, false, false, false, false, false, false, false, false, false, false, false, false, false, false, false, false, false, false, false, false, false] rfl rfl (by kernel_rfl) (fun _ _ _ h => h) (Or.inl ⟨by rfl, ?_⟩) ?_ ?_
    rotate_left
    · intro w'
      go_simp
      with_reducible rfl
    rotate_left
    · simp only [Act.put, List.setIfInBounds_toArray, List.set_cons_zero, List.set_cons_succ, i64_w, i32_w]
      rfl
    refine pure_ (i := 4) (N := some 20) (v := ?_) (a' := ?_) #[true, true, true, true, true, false, false, false, false, false, false, false, false, false, false, false, false, false, false, false, false, false, false, false, false, false, false, false, false] rfl rfl (by kernel_rfl) (fun _ _ _ h => h) (Or.inl ⟨by rfl, ?_⟩) ?_ ?_
    rotate_left
    · intro w'
      go_simp
      with_reducible rfl
    rotate_left
    · simp only [Act.put, List.setIfInBounds_toArray, List.set_cons_zero, List.set_cons_succ, i64_w, i32_w]
      rfl
    refine pure_ (i := 5) (N := some 21) (v := ?_) (a' := ?_) #[true, true, true, true, true, true, false, false, false, false, false, false, false, false, false, false, false, false, false, false, false, false, false, false, false, false, false, false, false] rfl rfl (by kernel_rfl) (fun _ _ _ h => h) (Or.inl ⟨by rfl, ?_⟩) ?_ ?_
    rotate_left
    · intro w'
      go_simp
      with_reducible rfl
    rotate_left
    · simp only [Act.put, List.setIfInBounds_toArray, List.set_cons_zero, List.set_cons_succ, i64_w, i32_w]
      rfl
    refine pure_ (i := 6) (N := some 22) (v := ?_) (a' := ?_) #[true, true, true, true, true, true, true, false, false, false, false, false, false, false, false, false, false, false, false, false, false, false, false, false, false, false, false, false, false] rfl rfl (by kernel_rfl) (fun _ _ _ h => h) (Or.inl ⟨by rfl, ?_⟩) ?_ ?_
    rotate_left
    · intro w'
      go_simp
      with_reducible rfl
    rotate_left
    · simp only [Act.put, List.setIfInBounds_toArray, List.set_cons_zero, List.set_cons_succ, i64_w, i32_w]
      rfl
    refine pure_ (i := 13) (N := some 29) (v := ?_) (a' := ?_) #[true, true, true, true, true, true, true, false, false, false, false, false, false, true, false, false, false, false, false, false, false, false, false, false, false, false, false, false, false] rfl rfl (by kernel_rfl) (fun _ _ _ h => h) (Or.inl ⟨by rfl, ?_⟩) ?_ ?_
    rotate_left
    · intro w'
      go_simp
      with_reducible rfl
    rotate_left
    · simp only [Act.put, List.setIfInBounds_toArray, List.set_cons_zero, List.set_cons_succ, i64_w, i32_w]
      rfl
    refine pure_ (i := 14) (N := some 30) (v := ?_) (a' := ?_) #[true, true, true, true, true, true, true, false, false, false, false, false, false, true, true, false, false, false, false, false, false, false, false, false, false, false, false, false, false] rfl rfl (by kernel_rfl) (fun _ _ _ h => h) (Or.inl ⟨by rfl, ?_⟩) ?_ ?_
    rotate_left
    · intro w'
      go_simp
      with_reducible rfl
    rotate_left
    · simp only [Act.put, List.setIfInBounds_toArray, List.set_cons_zero, List.set_cons_succ, i64_w, i32_w]
      rfl
    refine pure_ (i := 15) (N := some 31) (v := ?_) (a' := ?_) #[true, true, true, true, true, true, true, false, false, false, false, false, false, true, true, true, false, false, false, false, false, false, false, false, false, false, false, false, false] rfl rfl (by kernel_rfl) (fun _ _ _ h => h) (Or.inl ⟨by rfl, ?_⟩) ?_ ?_
    rotate_left
    · intro w'
      go_simp
      with_reducible rfl
    rotate_left
    · simp only [Act.put, List.setIfInBounds_toArray, List.set_cons_zero, List.set_cons_succ, i64_w, i32_w]
      rfl
    refine take_ (i := 7) (N := some 23) (v := ?_) (a' := ?_) #[true, true, true, true, true, true, true, true, false, false, false, false, false, true, true, true, false, false, false, false, false, false, false, false, false, false, false, false, false] rfl rfl (by kernel_rfl) (fun _ _ _ h => h) (Or.inl ⟨by rfl, ?_⟩) hHeld ?_ ?_
    rotate_left
    · rintro w' ⟨s0, s1, s2⟩
      go_simp
      with_reducible rfl
    rotate_left
    · simp only [Act.put, List.setIfInBounds_toArray, List.set_cons_zero, List.set_cons_succ, i64_w, i32_w]
      rfl
    refine pure_ (i := 8) (N := some 24) (v := ?_) (a' := ?_) #[true, true, true, true, true, true, true, true, true, false, false, false, false, true, true, true, false, false, false, false, false, false, false, false, false, false, false, false, false] rfl rfl (by kernel_rfl) (fun _ _ _ h => h) (Or.inl ⟨by rfl, ?_⟩) ?_ ?_
    rotate_left
    · intro w'
      go_simp
      with_reducible rfl
    rotate_left
    · simp only [Act.put, List.setIfInBounds_toArray, List.set_cons_zero, List.set_cons_succ, i64_w, i32_w]
      rfl
    refine pure_ (i := 9) (N := some 25) (v := ?_) (a' := ?_) #[true, true, true, true, true, true, true, true, true, true, false, false, false, true, true, true, false, false, false, false, false, false, false, false, false, false, false, false, false] rfl rfl (by kernel_rfl) (fun _ _ _ h => h) (Or.inl ⟨by rfl, ?_⟩) ?_ ?_
    rotate_left
    · intro w'
      go_simp
      with_reducible rfl
    rotate_left
    · simp only [Act.put, List.setIfInBounds_toArray, List.set_cons_zero, List.set_cons_succ, i64_w, i32_w]
      rfl
    refine pure_ (i := 10) (N := some 26) (v := ?_) (a' := ?_) #[true, true, true, true, true, true, true, true, true, true, true, false, false, true, true, true, false, false, false, false, false, false, false, false, false, false, false, false, false] rfl rfl (by kernel_rfl) (fun _ _ _ h => h) (Or.inl ⟨by rfl, ?_⟩) ?_ ?_
    rotate_left
    · intro w'
      go_simp
      with_reducible rfl
    rotate_left
    · simp only [Act.put, List.setIfInBounds_toArray, List.set_cons_zero, List.set_cons_succ, i64_w, i32_w]
      rfl
    refine pure_ (i := 11) (N := some 27) (v := ?_) (a' := ?_) #[true, true, true, true, true, true, true, true, true, true, true, true, false, true, true, true, false, false, false, false, false, false, false, false, false, false, false, false, false] rfl rfl (by kernel_rfl) (fun _ _ _ h => h) (Or.inl ⟨by rfl, ?_⟩) ?_ ?_
    rotate_left
    · intro w'
      go_simp
      with_reducible rfl
    rotate_left
    · simp only [Act.put, List.setIfInBounds_toArray, List.set_cons_zero, List.set_cons_succ, i64_w, i32_w]
      rfl
    refine pure_ (i := 12) (N := some 28) (v := ?_) (a' := ?_) #[true, true, true, true, true, true, true, true, true, true, true, true, true, true, true, true, false, false, false, false, false, false, false, false, false, false, false, false, false] rfl rfl (by kernel_rfl) (fun _ _ _ h => h) (Or.inl ⟨by rfl, ?_⟩) ?_ ?_
    rotate_left
    · intro w'
      go_simp
      with_reducible rfl
    rotate_left
    · simp only [Act.put, List.setIfInBounds_toArray, List.set_cons_zero, List.set_cons_succ, i64_w, i32_w]
      rfl
    refine take_ (i := 16) (N := some 32) (v := ?_) (a' := ?_) #[true, true, true, true, true, true, true, true, true, true, true, true, true, true, true, true, true, false, false, false, false, false, false, false, false, false, false, false, false] rfl rfl (by kernel_rfl) (fun _ _ _ h => h) (Or.inl ⟨by rfl, ?_⟩) hHeld ?_ ?_
    rotate_left
    · rintro w' ⟨s0, s1, s2⟩
      go_simp
      with_reducible rfl
    rotate_left
    · simp only [Act.put, List.setIfInBounds_toArray, List.set_cons_zero, List.set_cons_succ, i64_w, i32_w]
      rfl
    refine pure_ (i := 17) (N := some 33) (v := ?_) (a' := ?_) #[true, true, true, true, true, true, true, true, true, true, true, true, true, true, true, true, true, true, false, false, false, false, false, false, false, false, false, false, false] rfl rfl (by kernel_rfl) (fun _ _ _ h => h) (Or.inl ⟨by rfl, ?_⟩) ?_ ?_
    rotate_left
    · intro w'
      go_simp
      with_reducible rfl
    rotate_left
    · simp only [Act.put, List.setIfInBounds_toArray, List.set_cons_zero, List.set_cons_succ, i64_w, i32_w]
      rfl
    refine pure_ (i := 18) (N := some 34) (v := ?_) (a' := ?_) #[true, true, true, true, true, true, true, true, true, true, true, true, true, true, true, true, true, true, true, false, false, false, false, false, false, false, false, false, false] rfl rfl (by kernel_rfl) (fun _ _ _ h => h) (Or.inl ⟨by rfl, ?_⟩) ?_ ?_
    rotate_left
    · intro w'
      go_simp
      with_reducible rfl
    rotate_left
    · simp only [Act.put, List.setIfInBounds_toArray, List.set_cons_zero, List.set_cons_succ, i64_w, i32_w]
      rfl
    refine pure_ (i := 19) (N := some 35) (v := ?_) (a' := ?_) #[true, true, true, true, true, true, true, true, true, true, true, true, true, true, true, true, true, true, true, true, false, false, false, false, false, false, false, false, false] rfl rfl (by kernel_rfl) (fun _ _ _ h => h) (Or.inl ⟨by rfl, ?_⟩) ?_ ?_
    rotate_left
    · intro w'
      go_simp
      with_reducible rfl
    rotate_left
    · simp only [Act.put, List.setIfInBounds_toArray, List.set_cons_zero, List.set_cons_succ, i64_w, i32_w]
      rfl
    refine pure_ (i := 20) (N := some 36) (v := ?_) (a' := ?_) #[true, true, true, true, true, true, true, true, true, true, true, true, true, true, true, true, true, true, true, true, true, false, false, false, false, false, false, false, false] rfl rfl (by kernel_rfl) (fun _ _ _ h => h) (Or.inl ⟨by rfl, ?_⟩) ?_ ?_
    rotate_left
    · intro w'
      go_simp
      with_reducible rfl
    rotate_left
    · simp only [Act.put, List.setIfInBounds_toArray, List.set_cons_zero, List.set_cons_succ, i64_w, i32_w]
      rfl
    refine pure_ (i := 21) (N := some 37) (v := ?_) (a' := ?_) #[true, true, true, true, true, true, true, true, true, true, true, true, true, true, true, true, true, true, true, true, true, true, false, false, false, false, false, false, false] rfl rfl (by kernel_rfl) (fun _ _ _ h => h) (Or.inl ⟨by rfl, ?_⟩) ?_ ?_
    rotate_left
    · intro w'
      go_simp
      with_reducible rfl
    rotate_left
    · simp only [Act.put, List.setIfInBounds_toArray, List.set_cons_zero, List.set_cons_succ, i64_w, i32_w]
      rfl
    refine last_ (i := 22) (N := none) #[true, true, true, true, true, true, true, true, true, true, true, true, true, true, true, true, true, true, true, true, true, true, true, false, false, false, false, false, false] rfl rfl (by kernel_rfl) (by decide) (fun K hK => ?_)
    refine skip_ (w1 := ?_) (by rfl) rfl ?_ ?_
    rotate_left
    · go_simp
      rfl
    refine hK.out _ _ ?_
    clear hK K
    refine pure_ (i := 23) (N := some 38) (v := ?_) (a' := ?_) #[true, true, true, true, true, true, true, true, true, true, true, true, true, true, true, true, true, true, true, true, true, true, true, true, false, false, false, false, false] rfl rfl (by kernel_rfl) (fun _ _ _ h => h) (Or.inl ⟨by rfl, ?_⟩) ?_ ?_
    rotate_left
    · intro w'
      go_simp
      with_reducible rfl
    rotate_left
    · simp only [Act.put, List.setIfInBounds_toArray, List.set_cons_zero, List.set_cons_succ, i64_w, i32_w]
      rfl
    refine pure_ (i := 24) (N := some 39) (v := ?_) (a' := ?_) #[true, true, true, true, true, true, true, true, true, true, true, true, true, true, true, true, true, true, true, true, true, true, true, true, true, false, false, false, false] rfl rfl (by kernel_rfl) (fun _ _ _ h => h) (Or.inl ⟨by rfl, ?_⟩) ?_ ?_
    rotate_left
    · intro w'
      go_simp
      with_reducible rfl
    rotate_left
    · simp only [Act.put, List.setIfInBounds_toArray, List.set_cons_zero, List.set_cons_succ, i64_w, i32_w]
      rfl
    refine last_ (i := 25) (N := none) #[true, true, true, true, true, true, true, true, true, true, true, true, true, true, true, true, true, true, true, true, true, true, true, true, true, true, false, false, false] rfl rfl (by kernel_rfl) (by decide) (fun K hK => ?_)
    refine skip_ (w1 := ?_) (by rfl) rfl ?_ ?_
    rotate_left
    · go_simp
      rfl
    refine hK.out _ _ ?_
    clear hK K
    refine pure_ (i := 26) (N := some 40) (v := ?_) (a' := ?_) #[true, true, true, true, true, true, true, true, true, true, true, true, true, true, true, true, true, true, true, true, true, true, true, true, true, true, true, false, false] rfl rfl (by kernel_rfl) (fun _ _ _ h => h) (Or.inl ⟨by rfl, ?_⟩) ?_ ?_
    rotate_left
    · intro w'
      go_simp
      with_reducible rfl
    rotate_left
    · simp only [Act.put, List.setIfInBounds_toArray, List.set_cons_zero, List.set_cons_succ, i64_w, i32_w]
      rfl
    refine pure_ (i := 27) (N := some 41) (v := ?_) (a' := ?_) #[true, true, true, true, true, true, true, true, true, true, true, true, true, true, true, true, true, true, true, true, true, true, true, true, true, true, true, true, false] rfl rfl (by kernel_rfl) (fun _ _ _ h => h) (Or.inl ⟨by rfl, ?_⟩) ?_ ?_
    rotate_left
    · intro w'
      go_simp
      with_reducible rfl
    rotate_left
    · simp only [Act.put, List.setIfInBounds_toArray, List.set_cons_zero, List.set_cons_succ, i64_w, i32_w]
      rfl
    refine last_ (i := 28) (N := none) #[true, true, true, true, true, true, true, true, true, true, true, true, true, true, true, true, true, true, true, true, true, true, true, true, true, true, true, true, true] rfl rfl (by kernel_rfl) (by decide) (fun K hK => ?_)
    refine skip_ (w1 := ?_) (by rfl) rfl ?_ ?_
    rotate_left
    · go_simp
      rfl
    refine hK.out _ _ ?_
    clear hK K
    refine done_ (by kernel_rfl) ?_
    go_end0
    exact Fin.out _ HR1.out HU1.out
  · simp only [Bool.true_or, Bool.false_or] at Fin
    go_enter Tryd.func105, Tryd.ntmps105
    go_wp2_with (go_at_call 108; refine HL.out.mono ?_; rintro e w1 ⟨rfl, hr1, hu1⟩; have HR1 := Aside.mk hr1; have HU1 := Aside.mk hu1; have k0 := hu1.block_eq (k := g) H.out.ne H.out.cells; rw [← HC.out, ← HD.out] at k0; have k1 : w1.cell? ⟨g, 1, none⟩ = some (.bool false) := (blk_cell k0 1).trans rfl; have k3 : w1.cell? ⟨g, 3, none⟩ = some (.bool true) := (blk_cell k0 3).trans rfl; have f1 := blk_frozen k0 1; have f3 := blk_frozen k0 3; have k4 := hu1.block_eq (k := b) HR.out HB.out; have k5 := blk_cell' k4 HU.out; have f5 := blk_frozen k4 off; clear hr1 hu1 k0 k4)
    refine start_ (n := 29) (S := fun w' => w'.cell? ⟨g, 1, none⟩ = some (.bool false) ∧ w'.cell? ⟨g, 3, none⟩ = some (.bool true) ∧ w'.cell? ⟨b, off, none⟩ = some u) (ds := [22, 25, 28]) #[false, false, false, false, false, false, false, false, false, false, false, false, false, false, false, false, false, false, false, false, false, false, false, false, false, false, false, false, false] (by kernel_rfl) rfl rfl ⟨k1, k3, k5⟩ (fun hHeld => ?_)
    refine pure_ (i := 0) (N := some 16) (v := ?_) (a' := ?_) #[true, false, false, false, false, false, false, false, false, false, false, false, false, false, false, false, false, false, false, false, false, false, false, false, false, false, false, false, false] rfl rfl (by kernel_rfl) (fun _ _ _ h => h) (Or.inl ⟨by rfl, ?_⟩) ?_ ?_
    rotate_left
    · intro w'
      go_simp
      with_reducible rfl
    rotate_left
    · simp only [Act.put, List.setIfInBounds_toArray, List.set_cons_zero, List.set_cons_succ, i64_w, i32_w]
      rfl
    refine pure_ (i := 1) (N := some 17) (v := ?_) (a' := ?_) #[true, true, false, false, false, false, false, false, false, false, false, false, false, false, false, false, false, false, false, false, false, false, false, false, false, false, false, false, false] rfl rfl (by kernel_rfl) (fun _ _ _ h => h) (Or.inl ⟨by rfl, ?_⟩) ?_ ?_
    rotate_left
    · intro w'
      go_simp
      with_reducible rfl
    rotate_left
    · simp only [Act.put, List.setIfInBounds_toArray, List.set_cons_zero, List.set_cons_succ, i64_w, i32_w]
      rfl
    refine pure_ (i := 2) (N := some 18) (v := ?_) (a' := ?_) #[true, true, true, false, false, false, false, false, false, false, false, false, false, false, false, false, false, false, false, false, false, false, false, false, false, false, false, false, false] rfl rfl (by kernel_rfl) (fun _ _ _ h => h) (Or.inl ⟨by rfl, ?_⟩) ?_ ?_
    rotate_left
    · intro w'
      go_simp
      with_reducible rfl
    rotate_left
    · simp only [Act.put, List.setIfInBounds_toArray, List.set_cons_zero, List.set_cons_succ, i64_w, i32_w]
      rfl
    refine pure_ (i := 3) (N := some 19) (v := ?_) (a' := ?_) #[true, true, true, true, false, false, false, false, false, false, false, false, false, false, false, false, false, false, false, false, false, false, false, false, false, false, false, false, false] rfl rfl (by kernel_rfl) (fun _ _ _ h => h) (Or.inl ⟨by rfl, ?_⟩) ?_ ?_
    rotate_left
    · intro w'
      go_simp
      with_reducible rfl
    rotate_left
    · simp only [Act.put, List.setIfInBounds_toArray, List.set_cons_zero, List.set_cons_succ, i64_w, i32_w]
      rfl
    refine pure_ (i := 4) (N := some 20) (v := ?_) (a' := ?_) #[true, true, true, true, true, false, false, false, false, false, false, false, false, false, false, false, false, false, false, false, false, false, false, false, false, false, false, false, false] rfl rfl (by kernel_rfl) (fun _ _ _ h => h) (Or.inl ⟨by rfl, ?_⟩) ?_ ?_
    rotate_left
    · intro w'
      go_simp
      with_reducible rfl
    rotate_left
    · simp only [Act.put, List.setIfInBounds_toArray, List.set_cons_zero, List.set_cons_succ, i64_w, i32_w]
      rfl
    refine pure_ (i := 5) (N := some 21) (v := ?_) (a' := ?_) #[true, true, true, true, true, true, false, false, false, false, false, false, false, false, false, false, false, false, false, false, false, false, false, false, false, false, false, false, false] rfl rfl (by kernel_rfl) (fun _ _ _ h => h) (Or.inl ⟨by rfl, ?_⟩) ?_ ?_
    rotate_left
    · intro w'
      go_simp
      with_reducible rfl
    rotate_left
    · simp only [Act.put, List.setIfInBounds_toArray, List.set_cons_zero, List.set_cons_succ, i64_w, i32_w]
      rfl
    refine pure_ (i := 6) (N := some 22) (v := ?_) (a' := ?_) #[true, true, true, true, true, true, true, false, false, false, false, false, false, false, false, false, false, false, false, false, false, false, false, false, false, false, false, false, false] rfl rfl (by kernel_rfl) (fun _ _ _ h => h) (Or.inl ⟨by rfl, ?_⟩) ?_ ?_
    rotate_left
    · intro w'
      go_simp
      with_reducible rfl
    rotate_left
    · simp only [Act.put, List.setIfInBounds_toArray, List.set_cons_zero, List.set_cons_succ, i64_w, i32_w]
      rfl
    refine pure_ (i := 13) (N := some 29) (v := ?_) (a' := ?_) #[true, true, true, true, true, true, true, false, false, false, false, false, false, true, false, false, false, false, false, false, false, false, false, false, false, false, false, false, false] rfl rfl (by kernel_rfl) (fun _ _ _ h => h) (Or.inl ⟨by rfl, ?_⟩) ?_ ?_
    rotate_left
    · intro w'
      go_simp
      with_reducible rfl
    rotate_left
    · simp only [Act.put, List.setIfInBounds_toArray, List.set_cons_zero, List.set_cons_succ, i64_w, i32_w]
      rfl
    refine pure_ (i := 14) (N := some 30) (v := ?_) (a' := ?_) #[true, true, true, true, true, true, true, false, false, false, false, false, false, true, true, false, false, false, false, false, false, false, false, false, false, false, false, false, false] rfl rfl (by kernel_rfl) (fun _ _ _ h => h) (Or.inl ⟨by rfl, ?_⟩) ?_ ?_
    rotate_left
    · intro w'
      go_simp
      with_reducible rfl
    rotate_left
    · simp only [Act.put, List.setIfInBounds_toArray, List.set_cons_zero, List.set_cons_succ, i64_w, i32_w]
      rfl
    refine pure_ (i := 15) (N := some 31) (v := ?_) (a' := ?_) #[true, true, true, true, true, true, true, false, false, false, false, false, false, true, true, true, false, false, false, false, false, false, false, false, false, false, false, false, false] rfl rfl (by kernel_rfl) (fun _ _ _ h => h) (Or.inl ⟨by rfl, ?_⟩) ?_ ?_
    rotate_left
    · intro w'
      go_simp
      with_reducible rfl
    rotate_left
    · simp only [Act.put, List.setIfInBounds_toArray, List.set_cons_zero, List.set_cons_succ, i64_w, i32_w]
      rfl
    refine take_ (i := 7) (N := some 23) (v := ?_) (a' := ?_) #[true, true, true, true, true, true, true, true, false, false, false, false, false, true, true, true, false, false, false, false, false, false, false, false, false, false, false, false, false] rfl rfl (by kernel_rfl) (fun _ _ _ h => h) (Or.inl ⟨by rfl, ?_⟩) hHeld ?_ ?_
    rotate_left
    · rintro w' ⟨s0, s1, s2⟩
      go_simp
      with_reducible rfl
    rotate_left
    · simp only [Act.put, List.setIfInBounds_toArray, List.set_cons_zero, List.set_cons_succ, i64_w, i32_w]
      rfl
    refine pure_ (i := 8) (N := some 24) (v := ?_) (a' := ?_) #[true, true, true, true, true, true, true, true, true, false, false, false, false, true, true, true, false, false, false, false, false, false, false, false, false, false, false, false, false] rfl rfl (by kernel_rfl) (fun _ _ _ h => h) (Or.inl ⟨by rfl, ?_⟩) ?_ ?_
    rotate_left
    · intro w'
      go_simp
      with_reducible rfl
    rotate_left
    · simp only [Act.put, List.setIfInBounds_toArray, List.set_cons_zero, List.set_cons_succ, i64_w, i32_w]
      rfl
    refine pure_ (i := 9) (N := some 25) (v := ?_) (a' := ?_) #[true, true, true, true, true, true, true, true, true, true, false, false, false, true, true, true, false, false, false, false, false, false, false, false, false, false, false, false, false] rfl rfl (by kernel_rfl) (fun _ _ _ h => h) (Or.inl ⟨by rfl, ?_⟩) ?_ ?_
    rotate_left
    · intro w'
      go_simp
      with_reducible rfl
    rotate_left
    · simp only [Act.put, List.setIfInBounds_toArray, List.set_cons_zero, List.set_cons_succ, i64_w, i32_w]
      rfl
    refine pure_ (i := 10) (N := some 26) (v := ?_) (a' := ?_) #[true, true, true, true, true, true, true, true, true, true, true, false, false, true, true, true, false, false, false, false, false, false, false, false, false, false, false, false, false] rfl rfl (by kernel_rfl) (fun _ _ _ h => h) (Or.inl ⟨by rfl, ?_⟩) ?_ ?_
    rotate_left
    · intro w'
      go_simp
      with_reducible rfl
    rotate_left
    · simp only [Act.put, List.setIfInBounds_toArray, List.set_cons_zero, List.set_cons_succ, i64_w, i32_w]
      rfl
    refine pure_ (i := 11) (N := some 27) (v := ?_) (a' := ?_) #[true, true, true, true, true, true, true, true, true, true, true, true, false, true, true, true, false, false, false, false, false, false, false, false, false, false, false, false, false] rfl rfl (by kernel_rfl) (fun _ _ _ h => h) (Or.inl ⟨by rfl, ?_⟩) ?_ ?_
    rotate_left
    · intro w'
      go_simp
      with_reducible rfl
    rotate_left
    · simp only [Act.put, List.setIfInBounds_toArray, List.set_cons_zero, List.set_cons_succ, i64_w, i32_w]
      rfl
    refine pure_ (i := 12) (N := some 28) (v := ?_) (a' := ?_) #[true, true, true, true, true, true, true, true, true, true, true, true, true, true, true, true, false, false, false, false, false, false, false, false, false, false, false, false, false] rfl rfl (by kernel_rfl) (fun _ _ _ h => h) (Or.inl ⟨by rfl, ?_⟩) ?_ ?_
    rotate_left
    · intro w'
      go_simp
      with_reducible rfl
    rotate_left
    · simp only [Act.put, List.setIfInBounds_toArray, List.set_cons_zero, List.set_cons_succ, i64_w, i32_w]
      rfl
    refine take_ (i := 16) (N := some 32) (v := ?_) (a' := ?_) #[true, true, true, true, true, true, true, true, true, true, true, true, true, true, true, true, true, false, false, false, false, false, false, false, false, false, false, false, false] rfl rfl (by kernel_rfl) (fun _ _ _ h => h) (Or.inl ⟨by rfl, ?_⟩) hHeld ?_ ?_
    rotate_left
    · rintro w' ⟨s0, s1, s2⟩
      go_simp
      with_reducible rfl
    rotate_left
    · simp only [Act.put, List.setIfInBounds_toArray, List.set_cons_zero, List.set_cons_succ, i64_w, i32_w]
      rfl
    refine pure_ (i := 17) (N := some 33) (v := ?_) (a' := ?_) #[true, true, true, true, true, true, true, true, true, true, true, true, true, true, true, true, true, true, false, false, false, false, false, false, false, false, false, false, false] rfl rfl (by kernel_rfl) (fun _ _ _ h => h) (Or.inl ⟨by rfl, ?_⟩) ?_ ?_
    rotate_left
    · intro w'
      go_simp
      with_reducible rfl
    rotate_left
    · simp only [Act.put, List.setIfInBounds_toArray, List.set_cons_zero, List.set_cons_succ, i64_w, i32_w]
      rfl
    refine pure_ (i := 18) (N := some 34) (v := undef) (a' := ?_) #[true, true, true, true, true, true, true, true, true, true, true, true, true, true, true, true, true, true, true, false, false, false, false, false, false, false, false, false, false] rfl rfl (by kernel_rfl) (fun _ _ _ h => h) (Or.inr ⟨by rfl, rfl⟩) ?_ ?_
    rotate_left
    · simp only [Act.put, List.setIfInBounds_toArray, List.set_cons_zero, List.set_cons_succ, i64_w, i32_w]
      rfl
    refine pure_ (i := 19) (N := some 35) (v := undef) (a' := ?_) #[true, true, true, true, true, true, true, true, true, true, true, true, true, true, true, true, true, true, true, true, false, false, false, false, false, false, false, false, false] rfl rfl (by kernel_rfl) (fun _ _ _ h => h) (Or.inr ⟨by rfl, rfl⟩) ?_ ?_
    rotate_left
    · simp only [Act.put, List.setIfInBounds_toArray, List.set_cons_zero, List.set_cons_succ, i64_w, i32_w]
      rfl
    refine pure_ (i := 20) (N := some 36) (v := ?_) (a' := ?_) #[true, true, true, true, true, true, true, true, true, true, true, true, true, true, true, true, true, true, true, true, true, false, false, false, false, false, false, false, false] rfl rfl (by kernel_rfl) (fun _ _ _ h => h) (Or.inl ⟨by rfl, ?_⟩) ?_ ?_
    rotate_left
    · intro w'
      go_simp
      with_reducible rfl
    rotate_left
    · simp only [Act.put, List.setIfInBounds_toArray, List.set_cons_zero, List.set_cons_succ, i64_w, i32_w]
      rfl
    refine pure_ (i := 21) (N := some 37) (v := ?_) (a' := ?_) #[true, true, true, true, true, true, true, true, true, true, true, true, true, true, true, true, true, true, true, true, true, true, false, false, false, false, false, false, false] rfl rfl (by kernel_rfl) (fun _ _ _ h => h) (Or.inl ⟨by rfl, ?_⟩) ?_ ?_
    rotate_left
    · intro w'
      go_simp
      with_reducible rfl
    rotate_left
    · simp only [Act.put, List.setIfInBounds_toArray, List.set_cons_zero, List.set_cons_succ, i64_w, i32_w]
      rfl
    refine last_ (i := 22) (N := none) #[true, true, true, true, true, true, true, true, true, true, true, true, true, true, true, true, true, true, true, true, true, true, true, false, false, false, false, false, false] rfl rfl (by kernel_rfl) (by decide) (fun K hK => ?_)
    refine skip_ (w1 := ?_) (by rfl) rfl ?_ ?_
    rotate_left
    · go_simp
      rfl
    refine hK.out _ _ ?_
    clear hK K
    refine pure_ (i := 23) (N := some 38) (v := ?_) (a' := ?_) #[true, true, true, true, true, true, true, true, true, true, true, true, true, true, true, true, true, true, true, true, true, true, true, true, false, false, false, false, false] rfl rfl (by kernel_rfl) (fun _ _ _ h => h) (Or.inl ⟨by rfl, ?_⟩) ?_ ?_
    rotate_left
    · intro w'
      go_simp
      with_reducible rfl
    rotate_left
    · simp only [Act.put, List.setIfInBounds_toArray, List.set_cons_zero, List.set_cons_succ, i64_w, i32_w]
      rfl
    refine pure_ (i := 24) (N := some 39) (v := ?_) (a' := ?_) #[true, true, true, true, true, true, true, true, true, true, true, true, true, true, true, true, true, true, true, true, true, true, true, true, true, false, false, false, false] rfl rfl (by kernel_rfl) (fun _ _ _ h => h) (Or.inl ⟨by rfl, ?_⟩) ?_ ?_
    rotate_left
    · intro w'
      go_simp
      with_reducible rfl
    rotate_left
    · simp only [Act.put, List.setIfInBounds_toArray, List.set_cons_zero, List.set_cons_succ, i64_w, i32_w]
      rfl
    refine last_ (i := 25) (N := none) #[true, true, true, true, true, true, true, true, true, true, true, true, true, true, true, true, true, true, true, true, true, true, true, true, true, true, false, false, false] rfl rfl (by kernel_rfl) (by decide) (fun K hK => ?_)
    refine skip_ (w1 := ?_) (by rfl) rfl ?_ ?_
    rotate_left
    · go_simp
      rfl
    refine hK.out _ _ ?_
    clear hK K
    refine pure_ (i := 26) (N := some 40) (v := ?_) (a' := ?_) #[true, true, true, true, true, true, true, true, true, true, true, true, true, true, true, true, true, true, true, true, true, true, true, true, true, true, true, false, false] rfl rfl (by kernel_rfl) (fun _ _ _ h => h) (Or.inl ⟨by rfl, ?_⟩) ?_ ?_
    rotate_left
    · intro w'
      go_simp
      with_reducible rfl
    rotate_left
    · simp only [Act.put, List.setIfInBounds_toArray, List.set_cons_zero, List.set_cons_succ, i64_w, i32_w]
      rfl
    refine pure_ (i := 27) (N := some 41) (v := ?_) (a' := ?_) #[true, true, true, true, true, true, true, true, true, true, true, true, true, true, true, true, true, true, true, true, true, true, true, true, true, true, true, true, false] rfl rfl (by kernel_rfl) (fun _ _ _ h => h) (Or.inl ⟨by rfl, ?_⟩) ?_ ?_
    rotate_left
    · intro w'
      go_simp
      with_reducible rfl
    rotate_left
    · simp only [Act.put, List.setIfInBounds_toArray, List.set_cons_zero, List.set_cons_succ, i64_w, i32_w]
      rfl
    refine last_ (i := 28) (N := none) #[true, true, true, true, true, true, true, true, true, true, true, true, true, true, true, true, true, true, true, true, true, true, true, true, true, true, true, true, true] rfl rfl (by kernel_rfl) (by decide) (fun K hK => ?_)
    refine skip_ (w1 := ?_) (by rfl) rfl ?_ ?_
    rotate_left
    · go_simp
      rfl
    refine hK.out _ _ ?_
    clear hK K
    refine done_ (by kernel_rfl) ?_
    go_end0
    exact Fin.out _ HR1.out HU1.out
  · simp only [Bool.true_or, Bool.false_or] at Fin
    go_enter Tryd.func105, Tryd.ntmps105
    go_wp2_with (go_at_call 108; refine HL.out.mono ?_; rintro e w1 ⟨rfl, hr1, hu1⟩; have HR1 := Aside.mk hr1; have HU1 := Aside.mk hu1; have k0 := hu1.block_eq (k := g) H.out.ne H.out.cells; rw [← HC.out, ← HD.out] at k0; have k1 : w1.cell? ⟨g, 1, none⟩ = some (.bool true) := (blk_cell k0 1).trans rfl; have k3 : w1.cell? ⟨g, 3, none⟩ = some (.bool false) := (blk_cell k0 3).trans rfl; have f1 := blk_frozen k0 1; have f3 := blk_frozen k0 3; have k4 := hu1.block_eq (k := b) HR.out HB.out; have k5 := blk_cell' k4 HU.out; have f5 := blk_frozen k4 off; clear hr1 hu1 k0 k4)
    refine start_ (n := 29) (S := fun w' => w'.cell? ⟨g, 1, none⟩ = some (.bool true) ∧ w'.cell? ⟨g, 3, none⟩ = some (.bool false) ∧ w'.cell? ⟨b, off, none⟩ = some u) (ds := [22, 25, 28]) #[false, false, false, false, false, false, false, false, false, false, false, false, false, false, false, false, false, false, false, false, false, false, false, false, false, false, false, false, false] (by kernel_rfl) rfl rfl ⟨k1, k3, k5⟩ (fun hHeld => ?_)
    refine pure_ (i := 0) (N := some 16) (v := ?_) (a' := ?_) #[true, false, false, false, false, false, false, false, false, false, false, false, false, false, false, false, false, false, false, false, false, false, false, false, false, false, false, false, false] rfl rfl (by kernel_rfl) (fun _ _ _ h => h) (Or.inl ⟨by rfl, ?_⟩) ?_ ?_
    rotate_left
    · intro w'
      go_simp
      with_reducible rfl
    rotate_left
    · simp only [Act.put, List.setIfInBounds_toArray, List.set_cons_zero, List.set_cons_succ, i64_w, i32_w]
      rfl
    refine pure_ (i := 1) (N := some 17) (v := ?_) (a' := ?_) #[true, true, false, false, false, false, false, false, false, false, false, false, false, false, false, false, false, false, false, false, false, false, false, false, false, false, false, false, false] rfl rfl (by kernel_rfl) (fun _ _ _ h => h) (Or.inl ⟨by rfl, ?_⟩) ?_ ?_
    rotate_left
    · intro w'
      go_simp
      with_reducible rfl
    rotate_left
    · simp only [Act.put, List.setIfInBounds_toArray, List.set_cons_zero, List.set_cons_succ, i64_w, i32_w]
      rfl
    refine pure_ (i := 2) (N := some 18) (v := ?_) (a' := ?_) #[true, true, true, false, false, false, false, false, false, false, false, false, false, false, false, false, false, false, false, false, false, false, false, false, false, false, false, false, false] rfl rfl (by kernel_rfl) (fun _ _ _ h => h) (Or.inl ⟨by rfl, ?_⟩) ?_ ?_
    rotate_left
    · intro w'
      go_simp
      with_reducible rfl
    rotate_left
    · simp only [Act.put, List.setIfInBounds_toArray, List.set_cons_zero, List.set_cons_succ, i64_w, i32_w]
      rfl
    refine pure_ (i := 3) (N := some 19) (v := ?_) (a' := ?_) #[true, true, true, true, false, false, false, false, false, false, false, false, false, false, false, false, false, false, false, false, false, false, false, false, false, false, false, false, false] rfl rfl (by kernel_rfl) (fun _ _ _ h => h) (Or.inl ⟨by rfl, ?_⟩) ?_ ?_
    rotate_left
    · intro w'
      go_simp
      with_reducible rfl
    rotate_left
    · simp only [Act.put, List.setIfInBounds_toArray, List.set_cons_zero, List.set_cons_succ, i64_w, i32_w]
      rfl
    refine pure_ (i := 4) (N := some 20) (v := ?_) (a' := ?_) #[true, true, true, true, true, false, false, false, false, false, false, false, false, false, false, false, false, false, false, false, false, false, false, false, false, false, false, false, false] rfl rfl (by kernel_rfl) (fun _ _ _ h => h) (Or.inl ⟨by rfl, ?_⟩) ?_ ?_
    rotate_left
    · intro w'
      go_simp
      with_reducible rfl
    rotate_left
    · simp only [Act.put, List.setIfInBounds_toArray, List.set_cons_zero, List.set_cons_succ, i64_w, i32_w]
      rfl
    refine pure_ (i := 5) (N := some 21) (v := ?_) (a' := ?_) #[true, true, true, true, true, true, false, false, false, false, false, false, false, false, false, false, false, false, false, false, false, false, false, false, false, false, false, false, false] rfl rfl (by kernel_rfl) (fun _ _ _ h => h) (Or.inl ⟨by rfl, ?_⟩) ?_ ?_
    rotate_left
    · intro w'
      go_simp
      with_reducible rfl
    rotate_left
    · simp only [Act.put, List.setIfInBounds_toArray, List.set_cons_zero, List.set_cons_succ, i64_w, i32_w]
      rfl
    refine pure_ (i := 6) (N := some 22) (v := ?_) (a' := ?_) #[true, true, true, true, true, true, true, false, false, false, false, false, false, false, false, false, false, false, false, false, false, false, false, false, false, false, false, false, false] rfl rfl (by kernel_rfl) (fun _ _ _ h => h) (Or.inl ⟨by rfl, ?_⟩) ?_ ?_
    rotate_left
    · intro w'
      go_simp
      with_reducible rfl
    rotate_left
    · simp only [Act.put, List.setIfInBounds_toArray, List.set_cons_zero, List.set_cons_succ, i64_w, i32_w]
      rfl
    refine pure_ (i := 13) (N := some 29) (v := ?_) (a' := ?_) #[true, true, true, true, true, true, true, false, false, false, false, false, false, true, false, false, false, false, false, false, false, false, false, false, false, false, false, false, false] rfl rfl (by kernel_rfl) (fun _ _ _ h => h) (Or.inl ⟨by rfl, ?_⟩) ?_ ?_
    rotate_left
    · intro w'
      go_simp
      with_reducible rfl
    rotate_left
    · simp only [Act.put, List.setIfInBounds_toArray, List.set_cons_zero, List.set_cons_succ, i64_w, i32_w]
      rfl
    refine pure_ (i := 14) (N := some 30) (v := ?_) (a' := ?_) #[true, true, true, true, true, true, true, false, false, false, false, false, false, true, true, false, false, false, false, false, false, false, false, false, false, false, false, false, false] rfl rfl (by kernel_rfl) (fun _ _ _ h => h) (Or.inl ⟨by rfl, ?_⟩) ?_ ?_
    rotate_left
    · intro w'
      go_simp
      with_reducible rfl
    rotate_left
    · simp only [Act.put, List.setIfInBounds_toArray, List.set_cons_zero, List.set_cons_succ, i64_w, i32_w]
      rfl
    refine pure_ (i := 15) (N := some 31) (v := ?_) (a' := ?_) #[true, true, true, true, true, true, true, false, false, false, false, false, false, true, true, true, false, false, false, false, false, false, false, false, false, false, false, false, false] rfl rfl (by kernel_rfl) (fun _ _ _ h => h) (Or.inl ⟨by rfl, ?_⟩) ?_ ?_
    rotate_left
    · intro w'
      go_simp
      with_reducible rfl
    rotate_left
    · simp only [Act.put, List.setIfInBounds_toArray, List.set_cons_zero, List.set_cons_succ, i64_w, i32_w]
      rfl
    refine take_ (i := 7) (N := some 23) (v := ?_) (a' := ?_) #[true, true, true, true, true, true, true, true, false, false, false, false, false, true, true, true, false, false, false, false, false, false, false, false, false, false, false, false, false] rfl rfl (by kernel_rfl) (fun _ _ _ h => h) (Or.inl ⟨by rfl, ?_⟩) hHeld ?_ ?_
    rotate_left
    · rintro w' ⟨s0, s1, s2⟩
      go_simp
      with_reducible rfl
    rotate_left
    · simp only [Act.put, List.setIfInBounds_toArray, List.set_cons_zero, List.set_cons_succ, i64_w, i32_w]
      rfl
    refine pure_ (i := 8) (N := some 24) (v := ?_) (a' := ?_) #[true, true, true, true, true, true, true, true, true, false, false, false, false, true, true, true, false, false, false, false, false, false, false, false, false, false, false, false, false] rfl rfl (by kernel_rfl) (fun _ _ _ h => h) (Or.inl ⟨by rfl, ?_⟩) ?_ ?_
    rotate_left
    · intro w'
      go_simp
      with_reducible rfl
    rotate_left
    · simp only [Act.put, List.setIfInBounds_toArray, List.set_cons_zero, List.set_cons_succ, i64_w, i32_w]
      rfl
    refine pure_ (i := 9) (N := some 25) (v := undef) (a' := ?_) #[true, true, true, true, true, true, true, true, true, true, false, false, false, true, true, true, false, false, false, false, false, false, false, false, false, false, false, false, false] rfl rfl (by kernel_rfl) (fun _ _ _ h => h) (Or.inr ⟨by rfl, rfl⟩) ?_ ?_
    rotate_left
    · simp only [Act.put, List.setIfInBounds_toArray, List.set_cons_zero, List.set_cons_succ, i64_w, i32_w]
      rfl
    refine pure_ (i := 10) (N := some 26) (v := undef) (a' := ?_) #[true, true, true, true, true, true, true, true, true, true, true, false, false, true, true, true, false, false, false, false, false, false, false, false, false, false, false, false, false] rfl rfl (by kernel_rfl) (fun _ _ _ h => h) (Or.inr ⟨by rfl, rfl⟩) ?_ ?_
    rotate_left
    · simp only [Act.put, List.setIfInBounds_toArray, List.set_cons_zero, List.set_cons_succ, i64_w, i32_w]
      rfl
    refine pure_ (i := 11) (N := some 27) (v := undef) (a' := ?_) #[true, true, true, true, true, true, true, true, true, true, true, true, false, true, true, true, false, false, false, false, false, false, false, false, false, false, false, false, false] rfl rfl (by kernel_rfl) (fun _ _ _ h => h) (Or.inr ⟨by rfl, rfl⟩) ?_ ?_
    rotate_left
    · simp only [Act.put, List.setIfInBounds_toArray, List.set_cons_zero, List.set_cons_succ, i64_w, i32_w]
      rfl
    refine pure_ (i := 12) (N := some 28) (v := ?_) (a' := ?_) #[true, true, true, true, true, true, true, true, true, true, true, true, true, true, true, true, false, false, false, false, false, false, false, false, false, false, false, false, false] rfl rfl (by kernel_rfl) (fun _ _ _ h => h) (Or.inl ⟨by rfl, ?_⟩) ?_ ?_
    rotate_left
    · intro w'
      go_simp
      with_reducible rfl
    rotate_left
    · simp only [Act.put, List.setIfInBounds_toArray, List.set_cons_zero, List.set_cons_succ, i64_w, i32_w]
      rfl
    refine take_ (i := 16) (N := some 32) (v := ?_) (a' := ?_) #[true, true, true, true, true, true, true, true, true, true, true, true, true, true, true, true, true, false, false, false, false, false, false, false, false, false, false, false, false] rfl rfl (by kernel_rfl) (fun _ _ _ h => h) (Or.inl ⟨by rfl, ?_⟩) hHeld ?_ ?_
    rotate_left
    · rintro w' ⟨s0, s1, s2⟩
      go_simp
      with_reducible rfl
    rotate_left
    · simp only [Act.put, List.setIfInBounds_toArray, List.set_cons_zero, List.set_cons_succ, i64_w, i32_w]
      rfl
    refine pure_ (i := 17) (N := some 33) (v := ?_) (a' := ?_) #[true, true, true, true, true, true, true, true, true, true, true, true, true, true, true, true, true, true, false, false, false, false, false, false, false, false, false, false, false] rfl rfl (by kernel_rfl) (fun _ _ _ h => h) (Or.inl ⟨by rfl, ?_⟩) ?_ ?_
    rotate_left
    · intro w'
      go_simp
      with_reducible rfl
    rotate_left
    · simp only [Act.put, List.setIfInBounds_toArray, List.set_cons_zero, List.set_cons_succ, i64_w, i32_w]
      rfl
    refine pure_ (i := 18) (N := some 34) (v := ?_) (a' := ?_) #[true, true, true, true, true, true, true, true, true, true, true, true, true, true, true, true, true, true, true, false, false, false, false, false, false, false, false, false, false] rfl rfl (by kernel_rfl) (fun _ _ _ h => h) (Or.inl ⟨by rfl, ?_⟩) ?_ ?_
    rotate_left
    · intro w'
      go_simp
      with_reducible rfl
    rotate_left
    · simp only [Act.put, List.setIfInBounds_toArray, List.set_cons_zero, List.set_cons_succ, i64_w, i32_w]
      rfl
    refine pure_ (i := 19) (N := some 35) (v := ?_) (a' := ?_) #[true, true, true, true, true, true, true, true, true, true, true, true, true, true, true, true, true, true, true, true, false, false, false, false, false, false, false, false, false] rfl rfl (by kernel_rfl) (fun _ _ _ h => h) (Or.inl ⟨by rfl, ?_⟩) ?_ ?_
    rotate_left
    · intro w'
      go_simp
      with_reducible rfl
    rotate_left
    · simp only [Act.put, List.setIfInBounds_toArray, List.set_cons_zero, List.set_cons_succ, i64_w, i32_w]
      rfl
    refine pure_ (i := 20) (N := some 36) (v := ?_) (a' := ?_) #[true, true, true, true, true, true, true, true, true, true, true, true, true, true, true, true, true, true, true, true, true, false, false, false, false, false, false, false, false] rfl rfl (by kernel_rfl) (fun _ _ _ h => h) (Or.inl ⟨by rfl, ?_⟩) ?_ ?_
    rotate_left
    · intro w'
      go_simp
      with_reducible rfl
    rotate_left
    · simp only [Act.put, List.setIfInBounds_toArray, List.set_cons_zero, List.set_cons_succ, i64_w, i32_w]
      rfl
    refine pure_ (i := 21) (N := some 37) (v := ?_) (a' := ?_) #[true, true, true, true, true, true, true, true, true, true, true, true, true, true, true, true, true, true, true, true, true, true, false, false, false, false, false, false, false] rfl rfl (by kernel_rfl) (fun _ _ _ h => h) (Or.inl ⟨by rfl, ?_⟩) ?_ ?_
    rotate_left
    · intro w'
      go_simp
      with_reducible rfl
    rotate_left
    · simp only [Act.put, List.setIfInBounds_toArray, List.set_cons_zero, List.set_cons_succ, i64_w, i32_w]
      rfl
    refine last_ (i := 22) (N := none) #[true, true, true, true, true, true, true, true, true, true, true, true, true, true, true, true, true, true, true, true, true, true, true, false, false, false, false, false, false] rfl rfl (by kernel_rfl) (by decide) (fun K hK => ?_)
    refine skip_ (w1 := ?_) (by rfl) rfl ?_ ?_
    rotate_left
    · go_simp
      rfl
    refine hK.out _ _ ?_
    clear hK K
    refine pure_ (i := 23) (N := some 38) (v := ?_) (a' := ?_) #[true, true, true, true, true, true, true, true, true, true, true, true, true, true, true, true, true, true, true, true, true, true, true, true, false, false, false, false, false] rfl rfl (by kernel_rfl) (fun _ _ _ h => h) (Or.inl ⟨by rfl, ?_⟩) ?_ ?_
    rotate_left
    · intro w'
      go_simp
      with_reducible rfl
    rotate_left
    · simp only [Act.put, List.setIfInBounds_toArray, List.set_cons_zero, List.set_cons_succ, i64_w, i32_w]
      rfl
    refine pure_ (i := 24) (N := some 39) (v := ?_) (a' := ?_) #[true, true, true, true, true, true, true, true, true, true, true, true, true, true, true, true, true, true, true, true, true, true, true, true, true, false, false, false, false] rfl rfl (by kernel_rfl) (fun _ _ _ h => h) (Or.inl ⟨by rfl, ?_⟩) ?_ ?_
    rotate_left
    · intro w'
      go_simp
      with_reducible rfl
    rotate_left
    · simp only [Act.put, List.setIfInBounds_toArray, List.set_cons_zero, List.set_cons_succ, i64_w, i32_w]
      rfl
    refine last_ (i := 25) (N := none) #[true, true, true, true, true, true, true, true, true, true, true, true, true, true, true, true, true, true, true, true, true, true, true, true, true, true, false, false, false] rfl rfl (by kernel_rfl) (by decide) (fun K hK => ?_)
    refine skip_ (w1 := ?_) (by rfl) rfl ?_ ?_
    rotate_left
    · go_simp
      rfl
    refine hK.out _ _ ?_
    clear hK K
    refine pure_ (i := 26) (N := some 40) (v := ?_) (a' := ?_) #[true, true, true, true, true, true, true, true, true, true, true, true, true, true, true, true, true, true, true, true, true, true, true, true, true, true, true, false, false] rfl rfl (by kernel_rfl) (fun _ _ _ h => h) (Or.inl ⟨by rfl, ?_⟩) ?_ ?_
    rotate_left
    · intro w'
      go_simp
      with_reducible rfl
    rotate_left
    · simp only [Act.put, List.setIfInBounds_toArray, List.set_cons_zero, List.set_cons_succ, i64_w, i32_w]
      rfl
    refine pure_ (i := 27) (N := some 41) (v := ?_) (a' := ?_) #[true, true, true, true, true, true, true, true, true, true, true, true, true, true, true, true, true, true, true, true, true, true, true, true, true, true, true, true, false] rfl rfl (by kernel_rfl) (fun _ _ _ h => h) (Or.inl ⟨by rfl, ?_⟩) ?_ ?_
    rotate_left
    · intro w'
      go_simp
      with_reducible rfl
    rotate_left
    · simp only [Act.put, List.setIfInBounds_toArray, List.set_cons_zero, List.set_cons_succ, i64_w, i32_w]
      rfl
    refine last_ (i := 28) (N := none) #[true, true, true, true, true, true, true, true, true, true, true, true, true, true, true, true, true, true, true, true, true, true, true, true, true, true, true, true, true] rfl rfl (by kernel_rfl) (by decide) (fun K hK => ?_)
    refine skip_ (w1 := ?_) (by rfl) rfl ?_ ?_
    rotate_left
    · go_simp
      rfl
    refine hK.out _ _ ?_
    clear hK K
    refine done_ (by kernel_rfl) ?_
    go_end0
    exact Fin.out _ HR1.out HU1.out
  · simp only [Bool.true_or, Bool.false_or] at Fin
    go_enter Tryd.func105, Tryd.ntmps105
    go_wp2_with (go_at_call 108; refine HL.out.mono ?_; rintro e w1 ⟨rfl, hr1, hu1⟩; have HR1 := Aside.mk hr1; have HU1 := Aside.mk hu1; have k0 := hu1.block_eq (k := g) H.out.ne H.out.cells; rw [← HC.out, ← HD.out] at k0; have k1 : w1.cell? ⟨g, 1, none⟩ = some (.bool true) := (blk_cell k0 1).trans rfl; have k3 : w1.cell? ⟨g, 3, none⟩ = some (.bool true) := (blk_cell k0 3).trans rfl; have f1 := blk_frozen k0 1; have f3 := blk_frozen k0 3; have k4 := hu1.block_eq (k := b) HR.out HB.out; have k5 := blk_cell' k4 HU.out; have f5 := blk_frozen k4 off; clear hr1 hu1 k0 k4)
    refine start_ (n := 29) (S := fun w' => w'.cell? ⟨g, 1, none⟩ = some (.bool true) ∧ w'.cell? ⟨g, 3, none⟩ = some (.bool true) ∧ w'.cell? ⟨b, off, none⟩ = some u) (ds := [22, 25, 28]) #[false, false, false, false, false, false, false, false, false, false, false, false, false, false, false, false, false, false, false, false, false, false, false, false, false, false, false, false, false] (by kernel_rfl) rfl rfl ⟨k1, k3, k5⟩ (fun hHeld => ?_)
    refine pure_ (i := 0) (N := some 16) (v := ?_) (a' := ?_) #[true, false, false, false, false, false, false, false, false, false, false, false, false, false, false, false, false, false, false, false, false, false, false, false, false, false, false, false, false] rfl rfl (by kernel_rfl) (fun _ _ _ h => h) (Or.inl ⟨by rfl, ?_⟩) ?_ ?_
    rotate_left
    · intro w'
      go_simp
      with_reducible rfl
    rotate_left
    · simp only [Act.put, List.setIfInBounds_toArray, List.set_cons_zero, List.set_cons_succ, i64_w, i32_w]
      rfl
    refine pure_ (i := 1) (N := some 17) (v := ?_) (a' := ?_) #[true, true, false, false, false, false, false, false, false, false, false, false, false, false, false, false, false, false, false, false, false, false, false, false, false, false, false, false, false] rfl rfl (by kernel_rfl) (fun _ _ _ h => h) (Or.inl ⟨by rfl, ?_⟩) ?_ ?_
    rotate_left
    · intro w'
      go_simp
      with_reducible rfl
    rotate_left
    · simp only [Act.put, List.setIfInBounds_toArray, List.set_cons_zero, List.set_cons_succ, i64_w, i32_w]
      rfl
    refine pure_ (i := 2) (N := some 18) (v := ?_) (a' := ?_) #[true, true, true, false, false, false, false, false, false, false, false, false, false, false, false, false, false, false, false, false, false, false, false, false, false, false, false, false, false] rfl rfl (by kernel_rfl) (fun _ _ _ h => h) (Or.inl ⟨by rfl, ?_⟩) ?_ ?_
    rotate_left
    · intro w'
      go_simp
      with_reducible rfl
    rotate_left
    · simp only [Act.put, List.setIfInBounds_toArray, List.set_cons_zero, List.set_cons_succ, i64_w, i32_w]
      rfl
    refine pure_ (i := 3) (N := some 19) (v := ?_) (a' := ?_) #[true, true, true, true, false, false, false, false, false, false, false, false, false, false, false, false, false, false, false, false, false, false, false, false, false, false, false, false, false] rfl rfl (by kernel_rfl) (fun _ _ _ h => h) (Or.inl ⟨by rfl, ?_⟩) ?_ ?_
    rotate_left
    · intro w'
      go_simp
      with_reducible rfl
    rotate_left
    · simp only [Act.put, List.setIfInBounds_toArray, List.set_cons_zero, List.set_cons_succ, i64_w, i32_w]
      rfl
    refine pure_ (i := 4) (N := some 20) (v := ?_) (a' := ?_) #[true, true, true, true, true, false, false, false, false, false, false, false, false, false, false, false, false, false, false, false, false, false, false, false, false, false, false, false, false] rfl rfl (by kernel_rfl) (fun _ _ _ h => h) (Or.inl ⟨by rfl, ?_⟩) ?_ ?_
    rotate_left
    · intro w'
      go_simp
      with_reducible rfl
    rotate_left
    · simp only [Act.put, List.setIfInBounds_toArray, List.set_cons_zero, List.set_cons_succ, i64_w, i32_w]
      rfl
    refine pure_ (i := 5) (N := some 21) (v := ?_) (a' := ?_) #[true, true, true, true, true, true, false, false, false, false, false, false, false, false, false, false, false, false, false, false, false, false, false, false, false, false, false, false, false] rfl rfl (by kernel_rfl) (fun _ _ _ h => h) (Or.inl ⟨by rfl, ?_⟩) ?_ ?_
    rotate_left
    · intro w'
      go_simp
      with_reducible rfl
    rotate_left
    · simp only [Act.put, List.setIfInBounds_toArray, List.set_cons_zero, List.set_cons_succ, i64_w, i32_w]
      rfl
    refine pure_ (i := 6) (N := some 22) (v := ?_) (a' := ?_) #[true, true, true, true, true, true, true, false, false, false, false, false, false, false, false, false, false, false, false, false, false, false, false, false, false, false, false, false, false] rfl rfl (by kernel_rfl) (fun _ _ _ h => h) (Or.inl ⟨by rfl, ?_⟩) ?_ ?_
    rotate_left
    · intro w'
      go_simp
      with_reducible rfl
    rotate_left
    · simp only [Act.put, List.setIfInBounds_toArray, List.set_cons_zero, List.set_cons_succ, i64_w, i32_w]
      rfl
    refine pure_ (i := 13) (N := some 29) (v := ?_) (a' := ?_) #[true, true, true, true, true, true, true, false, false, false, false, false, false, true, false, false, false, false, false, false, false, false, false, false, false, false, false, false, false] rfl rfl (by kernel_rfl) (fun _ _ _ h => h) (Or.inl ⟨by rfl, ?_⟩) ?_ ?_
    rotate_left
    · intro w'
      go_simp
      with_reducible rfl
    rotate_left
    · simp only [Act.put, List.setIfInBounds_toArray, List.set_cons_zero, List.set_cons_succ, i64_w, i32_w]
      rfl
    refine pure_ (i := 14) (N := some 30) (v := ?_) (a' := ?_) #[true, true, true, true, true, true, true, false, false, false, false, false, false, true, true, false, false, false, false, false, false, false, false, false, false, false, false, false, false] rfl rfl (by kernel_rfl) (fun _ _ _ h => h) (Or.inl ⟨by rfl, ?_⟩) ?_ ?_
    rotate_left
    · intro w'
      go_simp
      with_reducible rfl
    rotate_left
    · simp only [Act.put, List.setIfInBounds_toArray, List.set_cons_zero, List.set_cons_succ, i64_w, i32_w]
      rfl
    refine pure_ (i := 15) (N := some 31) (v := ?_) (a' := ?_) #[true, true, true, true, true, true, true, false, false, false, false, false, false, true, true, true, false, false, false, false, false, false, false, false, false, false, false, false, false] rfl rfl (by kernel_rfl) (fun _ _ _ h => h) (Or.inl ⟨by rfl, ?_⟩) ?_ ?_
    rotate_left
    · intro w'
      go_simp
      with_reducible rfl
    rotate_left
    · simp only [Act.put, List.setIfInBounds_toArray, List.set_cons_zero, List.set_cons_succ, i64_w, i32_w]
      rfl
    refine take_ (i := 7) (N := some 23) (v := ?_) (a' := ?_) #[true, true, true, true, true, true, true, true, false, false, false, false, false, true, true, true, false, false, false, false, false, false, false, false, false, false, false, false, false] rfl rfl (by kernel_rfl) (fun _ _ _ h => h) (Or.inl ⟨by rfl, ?_⟩) hHeld ?_ ?_
    rotate_left
    · rintro w' ⟨s0, s1, s2⟩
      go_simp
      with_reducible rfl
    rotate_left
    · simp only [Act.put, List.setIfInBounds_toArray, List.set_cons_zero, List.set_cons_succ, i64_w, i32_w]
      rfl
    refine pure_ (i := 8) (N := some 24) (v := ?_) (a' := ?_) #[true, true, true, true, true, true, true, true, true, false, false, false, false, true, true, true, false, false, false, false, false, false, false, false, false, false, false, false, false] rfl rfl (by kernel_rfl) (fun _ _ _ h => h) (Or.inl ⟨by rfl, ?_⟩) ?_ ?_
    rotate_left
    · intro w'
      go_simp
      with_reducible rfl
    rotate_left
    · simp only [Act.put, List.setIfInBounds_toArray, List.set_cons_zero, List.set_cons_succ, i64_w, i32_w]
      rfl
    refine pure_ (i := 9) (N := some 25) (v := undef) (a' := ?_) #[true, true, true, true, true, true, true, true, true, true, false, false, false, true, true, true, false, false, false, false, false, false, false, false, false, false, false, false, false] rfl rfl (by kernel_rfl) (fun _ _ _ h => h) (Or.inr ⟨by rfl, rfl⟩) ?_ ?_
    rotate_left
    · simp only [Act.put, List.setIfInBounds_toArray, List.set_cons_zero, List.set_cons_succ, i64_w, i32_w]
      rfl
    refine pure_ (i := 10) (N := some 26) (v := undef) (a' := ?_) #[true, true, true, true, true, true, true, true, true, true, true, false, false, true, true, true, false, false, false, false, false, false, false, false, false, false, false, false, false] rfl rfl (by kernel_rfl) (fun _ _ _ h => h) (Or.inr ⟨by rfl, rfl⟩) ?_ ?_
    rotate_left
    · simp only [Act.put, List.setIfInBounds_toArray, List.set_cons_zero, List.set_cons_succ, i64_w, i32_w]
      rfl
    refine pure_ (i := 11) (N := some 27) (v := undef) (a' := ?_) #[true, true, true, true, true, true, true, true, true, true, true, true, false, true, true, true, false, false, false, false, false, false, false, false, false, false, false, false, false] rfl rfl (by kernel_rfl) (fun _ _ _ h => h) (Or.inr ⟨by rfl, rfl⟩) ?_ ?_
    rotate_left
    · simp only [Act.put, List.setIfInBounds_toArray, List.set_cons_zero, List.set_cons_succ, i64_w, i32_w]
      rfl
    refine pure_ (i := 12) (N := some 28) (v := ?_) (a' := ?_) #[true, true, true, true, true, true, true, true, true, true, true, true, true, true, true, true, false, false, false, false, false, false, false, false, false, false, false, false, false] rfl rfl (by kernel_rfl) (fun _ _ _ h => h) (Or.inl ⟨by rfl, ?_⟩) ?_ ?_
    rotate_left
    · intro w'
      go_simp
      with_reducible rfl
    rotate_left
    · simp only [Act.put, List.setIfInBounds_toArray, List.set_cons_zero, List.set_cons_succ, i64_w, i32_w]
      rfl
    refine take_ (i := 16) (N := some 32) (v := ?_) (a' := ?_) #[true, true, true, true, true, true, true, true, true, true, true, true, true, true, true, true, true, false, false, false, false, false, false, false, false, false, false, false, false] rfl rfl (by kernel_rfl) (fun _ _ _ h => h) (Or.inl ⟨by rfl, ?_⟩) hHeld ?_ ?_
    rotate_left
    · rintro w' ⟨s0, s1, s2⟩
      go_simp
      with_reducible rfl
    rotate_left
    · simp only [Act.put, List.setIfInBounds_toArray, List.set_cons_zero, List.set_cons_succ, i64_w, i32_w]
      rfl
    refine pure_ (i := 17) (N := some 33) (v := ?_) (a' := ?_) #[true, true, true, true, true, true, true, true, true, true, true, true, true, true, true, true, true, true, false, false, false, false, false, false, false, false, false, false, false] rfl rfl (by kernel_rfl) (fun _ _ _ h => h) (Or.inl ⟨by rfl, ?_⟩) ?_ ?_
    rotate_left
    · intro w'
      go_simp
      with_reducible rfl
    rotate_left
    · simp only [Act.put, List.setIfInBounds_toArray, List.set_cons_zero, List.set_cons_succ, i64_w, i32_w]
      rfl
    refine pure_ (i := 18) (N := some 34) (v := undef) (a' := ?_) #[true, true, true, true, true, true, true, true, true, true, true, true, true, true, true, true, true, true, true, false, false, false, false, false, false, false, false, false, false] rfl rfl (by kernel_rfl) (fun _ _ _ h => h) (Or.inr ⟨by rfl, rfl⟩) ?_ ?_
    rotate_left
    · simp only [Act.put, List.setIfInBounds_toArray, List.set_cons_zero, List.set_cons_succ, i64_w, i32_w]
      rfl
    refine pure_ (i := 19) (N := some 35) (v := undef) (a' := ?_) #[true, true, true, true, true, true, true, true, true, true, true, true, true, true, true, true, true, true, true, true, false, false, false, false, false, false, false, false, false] rfl rfl (by kernel_rfl) (fun _ _ _ h => h) (Or.inr ⟨by rfl, rfl⟩) ?_ ?_
    rotate_left
    · simp only [Act.put, List.setIfInBounds_toArray, List.set_cons_zero, List.set_cons_succ, i64_w, i32_w]
      rfl
    refine pure_ (i := 20) (N := some 36) (v := ?_) (a' := ?_) #[true, true, true, true, true, true, true, true, true, true, true, true, true, true, true, true, true, true, true, true, true, false, false, false, false, false, false, false, false] rfl rfl (by kernel_rfl) (fun _ _ _ h => h) (Or.inl ⟨by rfl, ?_⟩) ?_ ?_
    rotate_left
    · intro w'
      go_simp
      with_reducible rfl
    rotate_left
    · simp only [Act.put, List.setIfInBounds_toArray, List.set_cons_zero, List.set_cons_succ, i64_w, i32_w]
      rfl
    refine pure_ (i := 21) (N := some 37) (v := ?_) (a' := ?_) #[true, true, true, true, true, true, true, true, true, true, true, true, true, true, true, true, true, true, true, true, true, true, false, false, false, false, false, false, false] rfl rfl (by kernel_rfl) (fun _ _ _ h => h) (Or.inl ⟨by rfl, ?_⟩) ?_ ?_
    rotate_left
    · intro w'
      go_simp
      with_reducible rfl
    rotate_left
    · simp only [Act.put, List.setIfInBounds_toArray, List.set_cons_zero, List.set_cons_succ, i64_w, i32_w]
      rfl
    refine last_ (i := 22) (N := none) #[true, true, true, true, true, true, true, true, true, true, true, true, true, true, true, true, true, true, true, true, true, true, true, false, false, false, false, false, false] rfl rfl (by kernel_rfl) (by decide) (fun K hK => ?_)
    refine skip_ (w1 := ?_) (by rfl) rfl ?_ ?_
    rotate_left
    · go_simp
      rfl
    refine hK.out _ _ ?_
    clear hK K
    refine pure_ (i := 23) (N := some 38) (v := ?_) (a' := ?_) #[true, true, true, true, true, true, true, true, true, true, true, true, true, true, true, true, true, true, true, true, true, true, true, true, false, false, false, false, false] rfl rfl (by kernel_rfl) (fun _ _ _ h => h) (Or.inl ⟨by rfl, ?_⟩) ?_ ?_
    rotate_left
    · intro w'
      go_simp
      with_reducible rfl
    rotate_left
    · simp only [Act.put, List.setIfInBounds_toArray, List.set_cons_zero, List.set_cons_succ, i64_w, i32_w]
      rfl
    refine pure_ (i := 24) (N := some 39) (v := ?_) (a' := ?_) #[true, true, true, true, true, true, true, true, true, true, true, true, true, true, true, true, true, true, true, true, true, true, true, true, true, false, false, false, false] rfl rfl (by kernel_rfl) (fun _ _ _ h => h) (Or.inl ⟨by rfl, ?_⟩) ?_ ?_
    rotate_left
    · intro w'
      go_simp
      with_reducible rfl
    rotate_left
    · simp only [Act.put, List.setIfInBounds_toArray, List.set_cons_zero, List.set_cons_succ, i64_w, i32_w]
      rfl
    refine last_ (i := 25) (N := none) #[true, true, true, true, true, true, true, true, true, true, true, true, true, true, true, true, true, true, true, true, true, true, true, true, true, true, false, false, false] rfl rfl (by kernel_rfl) (by decide) (fun K hK => ?_)
    refine skip_ (w1 := ?_) (by rfl) rfl ?_ ?_
    rotate_left
    · go_simp
      rfl
    refine hK.out _ _ ?_
    clear hK K
    refine pure_ (i := 26) (N := some 40) (v := ?_) (a' := ?_) #[true, true, true, true, true, true, true, true, true, true, true, true, true, true, true, true, true, true, true, true, true, true, true, true, true, true, true, false, false] rfl rfl (by kernel_rfl) (fun _ _ _ h => h) (Or.inl ⟨by rfl, ?_⟩) ?_ ?_
    rotate_left
    · intro w'
      go_simp
      with_reducible rfl
    rotate_left
    · simp only [Act.put, List.setIfInBounds_toArray, List.set_cons_zero, List.set_cons_succ, i64_w, i32_w]
      rfl
    refine pure_ (i := 27) (N := some 41) (v := ?_) (a' := ?_) #[true, true, true, true, true, true, true, true, true, true, true, true, true, true, true, true, true, true, true, true, true, true, true, true, true, true, true, true, false] rfl rfl (by kernel_rfl) (fun _ _ _ h => h) (Or.inl ⟨by rfl, ?_⟩) ?_ ?_
    rotate_left
    · intro w'
      go_simp
      with_reducible rfl
    rotate_left
    · simp only [Act.put, List.setIfInBounds_toArray, List.set_cons_zero, List.set_cons_succ, i64_w, i32_w]
      rfl
    refine last_ (i := 28) (N := none) #[true, true, true, true, true, true, true, true, true, true, true, true, true, true, true, true, true, true, true, true, true, true, true, true, true, true, true, true, true] rfl rfl (by kernel_rfl) (by decide) (fun K hK => ?_)
    refine skip_ (w1 := ?_) (by rfl) rfl ?_ ?_
    rotate_left
    · go_simp
      rfl
    refine hK.out _ _ ?_
    clear hK K
    refine done_ (by kernel_rfl) ?_
    go_end0
    exact Fin.out _ HR1.out HU1.out

set_option maxRecDepth 100000 in
theorem Ilong_any {w : World} {g r b off : Nat} {T : TypeId} {cs : List Value} {q : RS} (h : InS w g r q) (hb : w.heap[b]? = some (.cells cs.toArray T (0, 0))) (ho : off < cs.length) (hg : b ≠ g) (hr : b ≠ r) :
    Calls Tryd.prog 98 #[.pointer (some ⟨g, 0, none⟩), .pointer (some ⟨b, off, none⟩)] w (InDone w g r b T (cs.set off (.int .i64 q.leastV)) (q.least 0)) := by
  have HL := Aside.mk (Ileast_any 0 h hb ho hg hr)
  clear h hb ho hg hr
  go_enter Tryd.func98, Tryd.ntmps98
  go_wp2_with (go_at_call 105; refine HL.out.mono ?_; rintro e w1 ⟨rfl, h1⟩; have H1 := Aside.mk h1; clear h1)
  go_end0
  exact ⟨rfl, H1.out⟩
set_option maxRecDepth 100000 in
theorem Ioptional_any {w : World} {g r b off : Nat} {T : TypeId} {cs : List Value} {q : RS} (h : InS w g r q) (hb : w.heap[b]? = some (.cells cs.toArray T (0, 0))) (ho : off < cs.length) (hg : b ≠ g) (hr : b ≠ r) :
    Calls Tryd.prog 101 #[.pointer (some ⟨g, 0, none⟩), .pointer (some ⟨b, off, none⟩)] w (InDone w g r b T (cs.set off (.int .i64 q.leastV)) (q.least (-1))) := by
  have HL := Aside.mk (Ileast_any (-1) h hb ho hg hr)
  clear h hb ho hg hr
  go_enter Tryd.func101, Tryd.ntmps101
  go_wp2_with (go_at_call 105; refine HL.out.mono ?_; rintro e w1 ⟨rfl, h1⟩; have H1 := Aside.mk h1; clear h1)
  go_end0
  exact ⟨rfl, H1.out⟩
def modeI (v : Int) : Int := if v = 4294967295 then -1 else v
set_option maxRecDepth 100000 in
set_option maxHeartbeats 1000000 in
theorem Imode_any {w : World} {g r b off : Nat} {T : TypeId} {cs : List Value} {q : RS} (h : InS w g r q) (hb : w.heap[b]? = some (.cells cs.toArray T (0, 0))) (ho : off < cs.length) (hg : b ≠ g) (hr : b ≠ r) :
    Calls Tryd.prog 99 #[.pointer (some ⟨g, 0, none⟩), .pointer (some ⟨b, off, none⟩)] w (InDone w g r b T (cs.set off (.int .i64 (modeI (q.numV 4)))) (q.num 4)) := by
  have HL := Aside.mk (Inum_any 4 4 rfl (by omega) h hb ho hg hr)
  have HO := Aside.mk ho
  have HG := Aside.mk hg
  have HR := Aside.mk hr
  obtain ⟨v, hv⟩ : ∃ v, v = q.numV 4 := ⟨_, rfl⟩
  rw [← hv] at HL ⊢
  clear h hb ho hg hr hv
  by_cases he : v = 4294967295
  · subst he
    rw [show modeI 4294967295 = -1 from rfl]
    go_enter Tryd.func99, Tryd.ntmps99
    go_wp2_with (go_at_call 36; refine HL.out.mono ?_; rintro e w1 ⟨rfl, h1, h2, h3⟩; have H1 := Aside.mk h1; have H2 := Aside.mk h2; have H3 := Aside.mk h3; have k0 : w1.cell? ⟨b, off, none⟩ = some (.int .i64 4294967295) := blk_cell' h2 (by rw [List.getElem?_set_self HO.out]); have k1 := blk_frozen h2 off; clear h1 h2 h3)
    go_end0
    refine ⟨rfl, H1.out.other HG.out HR.out _ _, ?_, H3.out.setCell (p := ⟨b, off, none⟩) (.inr (.inr rfl)) _⟩
    have h2 := blk_set' H2.out off (.int .i64 (-1))
    rwa [List.set_set] at h2
  · rw [show modeI v = v from if_neg he]
    have he2 : (v == 4294967295) = false := beq_eq_false_iff_ne.2 he
    go_enter Tryd.func99, Tryd.ntmps99
    go_wp2_with (go_at_call 36; refine HL.out.mono ?_; rintro e w1 ⟨rfl, h1, h2, h3⟩; have H1 := Aside.mk h1; have H2 := Aside.mk h2; have H3 := Aside.mk h3; have k0 : w1.cell? ⟨b, off, none⟩ = some (.int .i64 v) := blk_cell' h2 (by rw [List.getElem?_set_self HO.out]); have k1 := blk_frozen h2 off; clear h1 h2 h3)
    go_end0
    exact ⟨rfl, H1.out, H2.out, H3.out⟩

theorem numV_small (q : RS) (k : Nat) (hk : k ≤ 4) : 0 ≤ q.numV k ∧ q.numV k < 4294967296 := by
  have h1 := leN_small q.s q.i k hk
  unfold RS.numV litV
  split <;> omega
theorem numV_two (q : RS) : 0 ≤ q.numV 2 ∧ q.numV 2 < 65536 := by
  have h1 := leN_bound q.s q.i 2
  unfold RS.numV litV
  split <;> omega
def RS.rawE (q : RS) (k : Nat) : RS := { q.lit k with cut := q.cut || (litE q.s q.i q.e k != 0) }
def RS.sized (q : RS) : RS := (q.num 2).rawE (q.numV 2).toNat
def RS.sizedV (q : RS) : ByteArray := rawV (q.num 2).s (q.num 2).i (q.num 2).e (q.numV 2).toNat
set_option maxRecDepth 100000 in
set_option maxHeartbeats 4000000 in
theorem Isized_any {w : World} {g r : Nat} {q : RS} (h : InS w g r q) :
    Calls Tryd.prog 104 #[.pointer (some ⟨g, 0, none⟩), .int .i64 2] w fun e w' => e = .returned (.string q.sizedV) ∧ InS w' g r q.sized ∧ Upd (fun k => k = g ∨ k = r) w w' := by
  have hlg := blk_lt h.cells
  have hlr := blk_lt h.rd.cells
  have HN : Aside ((w.alloc (.cells #[.int .i64 0] 3)).heap[w.heap.size]? = some (.cells [.int .i64 0].toArray 3 (0, 0))) := ⟨by simpa using heap_alloc_new w _⟩
  have HL := Aside.mk (Inum_any (off := 0) 2 2 rfl (by omega) (h.alloc (.cells #[.int .i64 0] 3)) HN.out (by simp) (by omega) (by omega))
  have hk := numV_two q
  unfold RS.sized RS.sizedV
  obtain ⟨n, hn⟩ := Int.eq_ofNat_of_zero_le hk.1
  rw [hn] at HL hk ⊢
  have HK := Aside.mk hk
  have HG := Aside.mk hlg
  have HR := Aside.mk hlr
  rw [Int.toNat_natCast]
  obtain ⟨q1, hq1⟩ : ∃ q1, q1 = q.num 2 := ⟨_, rfl⟩
  rw [← hq1] at HL ⊢
  obtain ⟨cut, hcut⟩ : ∃ x, x = q1.cut := ⟨_, rfl⟩
  have HC := Aside.mk hcut
  clear h hk hn hq1 hlg hlr hcut
  have fin : ∀ w1 w2, Upd (fun k => k = g ∨ k = r ∨ k = w.heap.size) (w.alloc (.cells #[.int .i64 0] 3)) w1 → InS w1 g r q1 → Rd w2 r q1.s (litI q1.s q1.i q1.e n) (litE q1.s q1.i q1.e n) → Upd (fun k => k = r) w1 w2 →
      InS (w2.setCell ⟨g, 3, none⟩ (.bool (cut || (litE q1.s q1.i q1.e n != 0)))) g r (q1.rawE n) ∧ Upd (fun k => k = g ∨ k = r) w (w2.setCell ⟨g, 3, none⟩ (.bool (cut || (litE q1.s q1.i q1.e n != 0)))) := fun w1 w2 u1 h1 h2 u2 => by
    refine ⟨?_, ?_⟩
    · have h3 := (h1.read h2 u2).setCut (cut || (litE q1.s q1.i q1.e n != 0))
      rw [HC.out] at h3 ⊢
      exact h3
    · have u3 : Upd (fun k => k = g ∨ k = r) w w1 := (((Upd.refl (fun k => k = g ∨ k = r ∨ k = w.heap.size) w).alloc _).trans u1).mono' (fun k hk hF => by omega)
      exact (u3.trans (u2.mono (fun k hk => .inr hk))).setCell (p := ⟨g, 3, none⟩) (.inl rfl) _
  have Fin := Aside.mk fin
  clear fin
  cases cut
  · simp only [Bool.true_or, Bool.false_or] at Fin
    go_enter Tryd.func104, Tryd.ntmps104
    go_wp2_with (go_at_call 36; refine HL.out.mono ?_; rintro e w1 ⟨rfl, h1, h2, h3⟩; have H1 := Aside.mk h1; have H3 := Aside.mk h3; have k0 : w1.cell? ⟨w.heap.size, 0, none⟩ = some (.int .i64 n) := blk_cell' h2 rfl; have k1 : w1.cell? ⟨g, 0, none⟩ = some (.pointer (some ⟨r, 0, none⟩)) := (blk_cell h1.cells 0).trans rfl; have HRaw := Aside.mk (RRaw_any n (by have := HK.out; omega) h1.rd.drew); clear h1 h2 h3)
    have HCL := Aside.mk (fun w2 (hu : Upd (fun k => k = r) w1.drew w2) => And.intro (hu.cell (p := ⟨w.heap.size, 0, none⟩) (show ¬ w.heap.size = r by have := HR.out; omega) k0) (hu.cell (p := ⟨g, 0, none⟩) H1.out.ne k1))
    refine start_ (n := 11) (S := fun w' => w'.cell? ⟨w.heap.size, 0, none⟩ = some (.int .i64 n) ∧ w'.cell? ⟨g, 0, none⟩ = some (.pointer (some ⟨r, 0, none⟩))) (ds := []) #[false, false, false, false, false, false, false, false, false, false, false] (by kernel_rfl) rfl rfl ⟨k0, k1⟩ (fun hHeld => ?_)
    refine pure_ (i := 0) (N := some 12) (v := ?_) (a' := ?_) #[true, false, false, false, false, false, false, false, false, false, false] rfl rfl (by kernel_rfl) (fun _ _ _ h => h) (Or.inl ⟨by rfl, ?_⟩) ?_ ?_
    rotate_left
    · intro w'
      go_simp
      with_reducible rfl
    rotate_left
    · simp only [Act.put, List.setIfInBounds_toArray, List.set_cons_zero, List.set_cons_succ, i64_w, i32_w]
      rfl
    refine pure_ (i := 1) (N := some 13) (v := ?_) (a' := ?_) #[true, true, false, false, false, false, false, false, false, false, false] rfl rfl (by kernel_rfl) (fun _ _ _ h => h) (Or.inl ⟨by rfl, ?_⟩) ?_ ?_
    rotate_left
    · intro w'
      go_simp
      with_reducible rfl
    rotate_left
    · simp only [Act.put, List.setIfInBounds_toArray, List.set_cons_zero, List.set_cons_succ, i64_w, i32_w]
      rfl
    refine pure_ (i := 2) (N := some 14) (v := ?_) (a' := ?_) #[true, true, true, false, false, false, false, false, false, false, false] rfl rfl (by kernel_rfl) (fun _ _ _ h => h) (Or.inl ⟨by rfl, ?_⟩) ?_ ?_
    rotate_left
    · intro w'
      go_simp
      with_reducible rfl
    rotate_left
    · simp only [Act.put, List.setIfInBounds_toArray, List.set_cons_zero, List.set_cons_succ, i64_w, i32_w]
      rfl
    refine take_ (i := 3) (N := some 15) (v := ?_) (a' := ?_) #[true, true, true, true, false, false, false, false, false, false, false] rfl rfl (by kernel_rfl) (fun _ _ _ h => h) (Or.inl ⟨by rfl, ?_⟩) hHeld ?_ ?_
    rotate_left
    · rintro w' ⟨s0, s1⟩
      go_simp
      with_reducible rfl
    rotate_left
    · simp only [Act.put, List.setIfInBounds_toArray, List.set_cons_zero, List.set_cons_succ, i64_w, i32_w]
      rfl
    refine take_ (i := 4) (N := some 16) (v := ?_) (a' := ?_) #[true, true, true, true, true, false, false, false, false, false, false] rfl rfl (by kernel_rfl) (fun _ _ _ h => h) (Or.inl ⟨by rfl, ?_⟩) hHeld ?_ ?_
    rotate_left
    · rintro w' ⟨s0, s1⟩
      go_simp
      with_reducible rfl
    rotate_left
    · simp only [Act.put, List.setIfInBounds_toArray, List.set_cons_zero, List.set_cons_succ, i64_w, i32_w]
      rfl
    refine one_ (i := 5) (N := some 17) #[true, true, true, true, true, true, false, false, false, false, false] rfl rfl (by kernel_rfl) (by decide) (fun K hK => ?_)
    refine goes_ Tryd.func107 (by kernel_rfl) rfl #[.pointer (some ⟨r, 0, none⟩), .int .i64 n] (by rfl) rfl rfl (by simp only [List.map_toArray, List.map_cons, List.map_nil]; rfl) ?_
    with_reducible refine (HRaw.out).mono ?_
    rintro e w2 ⟨rfl, hr2, hu2⟩
    refine ⟨_, rfl, ?_⟩
    refine hK.out _ _ ⟨(HCL.out w2 hu2).1, (HCL.out w2 hu2).2⟩ (fun hHeld => ?_)
    clear hK K
    refine norm_ (a' := ?_) ?_ ?_
    rotate_left
    · show Act.put _ (some 17) _ = _
      simp only [Act.put, List.setIfInBounds_toArray, List.set_cons_zero, List.set_cons_succ, i64_w, i32_w]
      rfl
    refine pure_ (i := 6) (N := some 11) (v := ?_) (a' := ?_) #[true, true, true, true, true, true, true, false, false, false, false] rfl rfl (by kernel_rfl) (fun _ _ _ h => h) (Or.inl ⟨by rfl, ?_⟩) ?_ ?_
    rotate_left
    · intro w'
      go_simp
      with_reducible rfl
    rotate_left
    · simp only [Act.put, List.setIfInBounds_toArray, List.set_cons_zero, List.set_cons_succ, i64_w, i32_w]
      rfl
    refine pure_ (i := 7) (N := some 18) (v := ?_) (a' := ?_) #[true, true, true, true, true, true, true, true, false, false, false] rfl rfl (by kernel_rfl) (fun _ _ _ h => h) (Or.inl ⟨by rfl, ?_⟩) ?_ ?_
    rotate_left
    · intro w'
      go_simp
      with_reducible rfl
    rotate_left
    · simp only [Act.put, List.setIfInBounds_toArray, List.set_cons_zero, List.set_cons_succ, i64_w, i32_w]
      rfl
    refine pure_ (i := 8) (N := some 19) (v := ?_) (a' := ?_) #[true, true, true, true, true, true, true, true, true, false, false] rfl rfl (by kernel_rfl) (fun _ _ _ h => h) (Or.inl ⟨by rfl, ?_⟩) ?_ ?_
    rotate_left
    · intro w'
      go_simp
      with_reducible rfl
    rotate_left
    · simp only [Act.put, List.setIfInBounds_toArray, List.set_cons_zero, List.set_cons_succ, i64_w, i32_w]
      rfl
    refine pure_ (i := 9) (N := some 6) (v := ?_) (a' := ?_) #[true, true, true, true, true, true, true, true, true, true, false] rfl rfl (by kernel_rfl) (fun _ _ _ h => h) (Or.inl ⟨by rfl, ?_⟩) ?_ ?_
    rotate_left
    · intro w'
      go_simp
      with_reducible rfl
    rotate_left
    · simp only [Act.put, List.setIfInBounds_toArray, List.set_cons_zero, List.set_cons_succ, i64_w, i32_w]
      rfl
    refine pure_ (i := 10) (N := some 7) (v := ?_) (a' := ?_) #[true, true, true, true, true, true, true, true, true, true, true] rfl rfl (by kernel_rfl) (fun _ _ _ h => h) (Or.inl ⟨by rfl, ?_⟩) ?_ ?_
    rotate_left
    · intro w'
      go_simp
      with_reducible rfl
    rotate_left
    · simp only [Act.put, List.setIfInBounds_toArray, List.set_cons_zero, List.set_cons_succ, i64_w, i32_w]
      rfl
    refine done_ (by kernel_rfl) ?_
    have HR2 := Aside.mk hr2
    have HU2 := Aside.mk hu2
    have k2 := hu2.block_eq (k := g) H1.out.ne H1.out.cells
    rw [← HC.out] at k2
    have k3 : w2.cell? ⟨g, 3, none⟩ = some (.bool false) := (blk_cell k2 3).trans rfl
    have k4 := blk_frozen k2 3
    clear hr2 hu2 k2
    go_wp2
    go_ret
    exact ⟨rfl, Fin.out w1 _ H3.out H1.out HR2.out ((Upd.refl _ w1).drew.trans HU2.out)⟩
  · simp only [Bool.true_or, Bool.false_or] at Fin
    go_enter Tryd.func104, Tryd.ntmps104
    go_wp2_with (go_at_call 36; refine HL.out.mono ?_; rintro e w1 ⟨rfl, h1, h2, h3⟩; have H1 := Aside.mk h1; have H3 := Aside.mk h3; have k0 : w1.cell? ⟨w.heap.size, 0, none⟩ = some (.int .i64 n) := blk_cell' h2 rfl; have k1 : w1.cell? ⟨g, 0, none⟩ = some (.pointer (some ⟨r, 0, none⟩)) := (blk_cell h1.cells 0).trans rfl; have HRaw := Aside.mk (RRaw_any n (by have := HK.out; omega) h1.rd.drew); clear h1 h2 h3)
    have HCL := Aside.mk (fun w2 (hu : Upd (fun k => k = r) w1.drew w2) => And.intro (hu.cell (p := ⟨w.heap.size, 0, none⟩) (show ¬ w.heap.size = r by have := HR.out; omega) k0) (hu.cell (p := ⟨g, 0, none⟩) H1.out.ne k1))
    refine start_ (n := 11) (S := fun w' => w'.cell? ⟨w.heap.size, 0, none⟩ = some (.int .i64 n) ∧ w'.cell? ⟨g, 0, none⟩ = some (.pointer (some ⟨r, 0, none⟩))) (ds := []) #[false, false, false, false, false, false, false, false, false, false, false] (by kernel_rfl) rfl rfl ⟨k0, k1⟩ (fun hHeld => ?_)
    refine pure_ (i := 0) (N := some 12) (v := ?_) (a' := ?_) #[true, false, false, false, false, false, false, false, false, false, false] rfl rfl (by kernel_rfl) (fun _ _ _ h => h) (Or.inl ⟨by rfl, ?_⟩) ?_ ?_
    rotate_left
    · intro w'
      go_simp
      with_reducible rfl
    rotate_left
    · simp only [Act.put, List.setIfInBounds_toArray, List.set_cons_zero, List.set_cons_succ, i64_w, i32_w]
      rfl
    refine pure_ (i := 1) (N := some 13) (v := ?_) (a' := ?_) #[true, true, false, false, false, false, false, false, false, false, false] rfl rfl (by kernel_rfl) (fun _ _ _ h => h) (Or.inl ⟨by rfl, ?_⟩) ?_ ?_
    rotate_left
    · intro w'
      go_simp
      with_reducible rfl
    rotate_left
    · simp only [Act.put, List.setIfInBounds_toArray, List.set_cons_zero, List.set_cons_succ, i64_w, i32_w]
      rfl
    refine pure_ (i := 2) (N := some 14) (v := ?_) (a' := ?_) #[true, true, true, false, false, false, false, false, false, false, false] rfl rfl (by kernel_rfl) (fun _ _ _ h => h) (Or.inl ⟨by rfl, ?_⟩) ?_ ?_
    rotate_left
    · intro w'
      go_simp
      with_reducible rfl
    rotate_left
    · simp only [Act.put, List.setIfInBounds_toArray, List.set_cons_zero, List.set_cons_succ, i64_w, i32_w]
      rfl
    refine take_ (i := 3) (N := some 15) (v := ?_) (a' := ?_) #[true, true, true, true, false, false, false, false, false, false, false] rfl rfl (by kernel_rfl) (fun _ _ _ h => h) (Or.inl ⟨by rfl, ?_⟩) hHeld ?_ ?_
    rotate_left
    · rintro w' ⟨s0, s1⟩
      go_simp
      with_reducible rfl
    rotate_left
    · simp only [Act.put, List.setIfInBounds_toArray, List.set_cons_zero, List.set_cons_succ, i64_w, i32_w]
      rfl
    refine take_ (i := 4) (N := some 16) (v := ?_) (a' := ?_) #[true, true, true, true, true, false, false, false, false, false, false] rfl rfl (by kernel_rfl) (fun _ _ _ h => h) (Or.inl ⟨by rfl, ?_⟩) hHeld ?_ ?_
    rotate_left
    · rintro w' ⟨s0, s1⟩
      go_simp
      with_reducible rfl
    rotate_left
    · simp only [Act.put, List.setIfInBounds_toArray, List.set_cons_zero, List.set_cons_succ, i64_w, i32_w]
      rfl
    refine one_ (i := 5) (N := some 17) #[true, true, true, true, true, true, false, false, false, false, false] rfl rfl (by kernel_rfl) (by decide) (fun K hK => ?_)
    refine goes_ Tryd.func107 (by kernel_rfl) rfl #[.pointer (some ⟨r, 0, none⟩), .int .i64 n] (by rfl) rfl rfl (by simp only [List.map_toArray, List.map_cons, List.map_nil]; rfl) ?_
    with_reducible refine (HRaw.out).mono ?_
    rintro e w2 ⟨rfl, hr2, hu2⟩
    refine ⟨_, rfl, ?_⟩
    refine hK.out _ _ ⟨(HCL.out w2 hu2).1, (HCL.out w2 hu2).2⟩ (fun hHeld => ?_)
    clear hK K
    refine norm_ (a' := ?_) ?_ ?_
    rotate_left
    · show Act.put _ (some 17) _ = _
      simp only [Act.put, List.setIfInBounds_toArray, List.set_cons_zero, List.set_cons_succ, i64_w, i32_w]
      rfl
    refine pure_ (i := 6) (N := some 11) (v := ?_) (a' := ?_) #[true, true, true, true, true, true, true, false, false, false, false] rfl rfl (by kernel_rfl) (fun _ _ _ h => h) (Or.inl ⟨by rfl, ?_⟩) ?_ ?_
    rotate_left
    · intro w'
      go_simp
      with_reducible rfl
    rotate_left
    · simp only [Act.put, List.setIfInBounds_toArray, List.set_cons_zero, List.set_cons_succ, i64_w, i32_w]
      rfl
    refine pure_ (i := 7) (N := some 18) (v := ?_) (a' := ?_) #[true, true, true, true, true, true, true, true, false, false, false] rfl rfl (by kernel_rfl) (fun _ _ _ h => h) (Or.inl ⟨by rfl, ?_⟩) ?_ ?_
    rotate_left
    · intro w'
      go_simp
      with_reducible rfl
    rotate_left
    · simp only [Act.put, List.setIfInBounds_toArray, List.set_cons_zero, List.set_cons_succ, i64_w, i32_w]
      rfl
    refine pure_ (i := 8) (N := some 19) (v := ?_) (a' := ?_) #[true, true, true, true, true, true, true, true, true, false, false] rfl rfl (by kernel_rfl) (fun _ _ _ h => h) (Or.inl ⟨by rfl, ?_⟩) ?_ ?_
    rotate_left
    · intro w'
      go_simp
      with_reducible rfl
    rotate_left
    · simp only [Act.put, List.setIfInBounds_toArray, List.set_cons_zero, List.set_cons_succ, i64_w, i32_w]
      rfl
    refine pure_ (i := 9) (N := some 6) (v := ?_) (a' := ?_) #[true, true, true, true, true, true, true, true, true, true, false] rfl rfl (by kernel_rfl) (fun _ _ _ h => h) (Or.inl ⟨by rfl, ?_⟩) ?_ ?_
    rotate_left
    · intro w'
      go_simp
      with_reducible rfl
    rotate_left
    · simp only [Act.put, List.setIfInBounds_toArray, List.set_cons_zero, List.set_cons_succ, i64_w, i32_w]
      rfl
    refine pure_ (i := 10) (N := some 7) (v := ?_) (a' := ?_) #[true, true, true, true, true, true, true, true, true, true, true] rfl rfl (by kernel_rfl) (fun _ _ _ h => h) (Or.inl ⟨by rfl, ?_⟩) ?_ ?_
    rotate_left
    · intro w'
      go_simp
      with_reducible rfl
    rotate_left
    · simp only [Act.put, List.setIfInBounds_toArray, List.set_cons_zero, List.set_cons_succ, i64_w, i32_w]
      rfl
    refine done_ (by kernel_rfl) ?_
    have HR2 := Aside.mk hr2
    have HU2 := Aside.mk hu2
    have k2 := hu2.block_eq (k := g) H1.out.ne H1.out.cells
    rw [← HC.out] at k2
    have k3 : w2.cell? ⟨g, 3, none⟩ = some (.bool true) := (blk_cell k2 3).trans rfl
    have k4 := blk_frozen k2 3
    clear hr2 hu2 k2
    go_wp2
    go_ret
    exact ⟨rfl, Fin.out w1 _ H3.out H1.out HR2.out ((Upd.refl _ w1).drew.trans HU2.out)⟩

set_option maxRecDepth 100000 in
set_option maxHeartbeats 1000000 in
theorem Itext_any {w : World} {g r b off : Nat} {T : TypeId} {cs : List Value} {q : RS} (h : InS w g r q) (hb : w.heap[b]? = some (.cells cs.toArray T (0, 0))) (ho : off < cs.length) (hg : b ≠ g) (hr : b ≠ r) :
    Calls Tryd.prog 103 #[.pointer (some ⟨g, 0, none⟩), .pointer (some ⟨b, off, none⟩)] w (InDone w g r b T (cs.set off (.string q.sizedV)) q.sized) := by
  have HL := Aside.mk (Isized_any h)
  obtain ⟨u, hu⟩ : ∃ u, cs[off]? = some u := ⟨_, List.getElem?_eq_getElem ho⟩
  have HU := Aside.mk hu
  have HB := Aside.mk hb
  have HG := Aside.mk hg
  have HR := Aside.mk hr
  clear h hb ho hg hr hu
  go_enter Tryd.func103, Tryd.ntmps103
  go_wp2_with (go_at_call 104; refine HL.out.mono ?_; rintro e w1 ⟨rfl, h1, h2⟩; have H1 := Aside.mk h1; have H2 := Aside.mk h2; have h3 := h2.block_eq (k := b) (fun h => h.elim HG.out HR.out) HB.out; have H3 := Aside.mk h3; have k0 := blk_cell' h3 HU.out; have k1 := blk_frozen h3 off; clear h1 h2 h3)
  go_end0
  exact ⟨rfl, H1.out.other HG.out HR.out _ _, blk_set' H3.out _ _, (H2.out.mono (fun k hk => hk.elim .inl (fun h => .inr (.inl h)))).setCell (p := ⟨b, off, none⟩) (.inr (.inr rfl)) _⟩

def RS.count (q : RS) : RS := { q.num 2 with over := q.over || decide (16 < q.numV 2) }
set_option maxRecDepth 100000 in
set_option maxHeartbeats 1000000 in
theorem Icount_any {w : World} {g r : Nat} {q : RS} (h : InS w g r q) :
    Calls Tryd.prog 106 #[.pointer (some ⟨g, 0, none⟩)] w fun e w' => e = .returned (.int .i64 (q.numV 2)) ∧ InS w' g r q.count ∧ Upd (fun k => k = g ∨ k = r) w w' := by
  have hlg := blk_lt h.cells
  have hlr := blk_lt h.rd.cells
  have HN : Aside ((w.alloc (.cells #[.int .i64 0] 3)).heap[w.heap.size]? = some (.cells [.int .i64 0].toArray 3 (0, 0))) := ⟨by simpa using heap_alloc_new w _⟩
  have HL := Aside.mk (Inum_any (off := 0) 2 2 rfl (by omega) (h.alloc (.cells #[.int .i64 0] 3)) HN.out (by simp) (by omega) (by omega))
  have HG := Aside.mk hlg
  have HR := Aside.mk hlr
  obtain ⟨over, hover⟩ : ∃ x, x = q.over := ⟨_, rfl⟩
  have HV := Aside.mk hover
  have EC : Aside (q.count = { q.num 2 with over := over || decide (16 < q.numV 2) }) := ⟨by rw [hover]; rfl⟩
  rw [EC.out]
  have hq1 : (q.num 2).over = over := hover.symm
  generalize q.num 2 = q1 at *
  generalize q.numV 2 = n at *
  have HQ := Aside.mk hq1
  clear h hlg hlr hover hq1
  have fin : ∀ w1, Upd (fun k => k = g ∨ k = r ∨ k = w.heap.size) (w.alloc (.cells #[.int .i64 0] 3)) w1 → InS w1 g r q1 → ∀ v,
      InS (w1.setCell ⟨g, 2, none⟩ (.bool v)) g r { q1 with over := v } ∧ Upd (fun k => k = g ∨ k = r) w (w1.setCell ⟨g, 2, none⟩ (.bool v)) := fun w1 u1 h1 v => by
    refine ⟨h1.setOver v, ?_⟩
    have u3 : Upd (fun k => k = g ∨ k = r) w w1 := (((Upd.refl (fun k => k = g ∨ k = r ∨ k = w.heap.size) w).alloc _).trans u1).mono' (fun k hk hF => by omega)
    exact u3.setCell (p := ⟨g, 2, none⟩) (.inl rfl) _
  have Fin := Aside.mk fin
  clear fin
  have n1 : ¬ w.heap.size = g := by have := HG.out; omega
  have n2 : ¬ g = w.heap.size := by have := HG.out; omega
  cases over
  · simp only [Bool.true_or, Bool.false_or]
    go_enter Tryd.func106, Tryd.ntmps106
    go_wp2_with (go_at_call 36; refine HL.out.mono ?_; rintro e w1 ⟨rfl, h1, h2, h3⟩; have H1 := Aside.mk h1; have H3 := Aside.mk h3; have k0 : w1.cell? ⟨w.heap.size, 0, none⟩ = some (.int .i64 n) := blk_cell' h2 rfl; have k1 : w1.cell? ⟨g, 2, none⟩ = some (.bool false) := (blk_cell h1.cells 2).trans (by rw [HQ.out]; rfl); have k2 := blk_frozen h1.cells 2; clear h1 h2 h3)
    go_ret
    exact ⟨rfl, Fin.out w1 H3.out H1.out _⟩
  · simp only [Bool.true_or, Bool.false_or]
    go_enter Tryd.func106, Tryd.ntmps106
    go_wp2_with (go_at_call 36; refine HL.out.mono ?_; rintro e w1 ⟨rfl, h1, h2, h3⟩; have H1 := Aside.mk h1; have H3 := Aside.mk h3; have k0 : w1.cell? ⟨w.heap.size, 0, none⟩ = some (.int .i64 n) := blk_cell' h2 rfl; have k1 : w1.cell? ⟨g, 2, none⟩ = some (.bool true) := (blk_cell h1.cells 2).trans (by rw [HQ.out]; rfl); have k2 := blk_frozen h1.cells 2; clear h1 h2 h3)
    go_ret
    exact ⟨rfl, Fin.out w1 H3.out H1.out _⟩
def RS.finish (q : RS) : RS := { q with e := endE q.s q.i q.e, cut := (endE q.s q.i q.e != 0) || q.cut }
set_option maxRecDepth 100000 in
set_option maxHeartbeats 1000000 in
theorem Ifinish_any {w : World} {g r : Nat} {q : RS} (h : InS w g r q) :
    Calls Tryd.prog 37 #[.pointer (some ⟨g, 0, none⟩)] w fun e w' => e = .returned (.tuple #[]) ∧ InS w' g r q.finish ∧ Upd (fun k => k = g ∨ k = r) w w' := by
  have HL := Aside.mk (REnd_any h.rd)
  have c0 : w.cell? ⟨g, 0, none⟩ = some (.pointer (some ⟨r, 0, none⟩)) := (blk_cell h.cells 0).trans rfl
  have H := Aside.mk h
  clear h
  have fin : ∀ w1, Rd w1 r q.s q.i (endE q.s q.i q.e) → Upd (fun k => k = r) w w1 → InS (w1.setCell ⟨g, 3, none⟩ (.bool ((endE q.s q.i q.e != 0) || q.cut))) g r q.finish ∧ Upd (fun k => k = g ∨ k = r) w (w1.setCell ⟨g, 3, none⟩ (.bool ((endE q.s q.i q.e != 0) || q.cut))) := fun w1 h1 u1 => by
    exact ⟨(H.out.read h1 u1).setCut _, (u1.mono (fun k hk => .inr hk)).setCell (p := ⟨g, 3, none⟩) (.inl rfl) _⟩
  have Fin := Aside.mk fin
  clear fin
  by_cases he : endE q.s q.i q.e = 0
  · have e1 : (endE q.s q.i q.e != 0) = false := by rw [he]; rfl
    rw [e1] at Fin
    simp only [Bool.false_or] at Fin
    clear e1
    obtain ⟨er, her⟩ : ∃ er, er = endE q.s q.i q.e := ⟨_, rfl⟩
    rw [← her] at he HL Fin
    subst he
    clear her
    go_enter Tryd.func37, Tryd.ntmps37
    go_wp2_with (go_at_call 54; refine HL.out.mono ?_; rintro e w1 ⟨rfl, h1, h2⟩; have H1 := Aside.mk h1; have H2 := Aside.mk h2; have h3 := h2.block_eq (k := g) H.out.ne H.out.cells; have k1 : w1.cell? ⟨g, 3, none⟩ = some (.bool q.cut) := (blk_cell h3 3).trans rfl; have k2 := blk_frozen h3 3; clear h1 h2 h3)
    go_end0
    exact ⟨rfl, Fin.out w1 H1.out H2.out⟩
  · have e1 : (endE q.s q.i q.e != 0) = true := bne_iff_ne.2 he
    rw [e1] at Fin
    simp only [Bool.true_or] at Fin
    obtain ⟨er, her⟩ : ∃ er, er = endE q.s q.i q.e := ⟨_, rfl⟩
    rw [← her] at he HL Fin e1
    clear her
    go_enter Tryd.func37, Tryd.ntmps37
    go_wp2_with (go_at_call 54; refine HL.out.mono ?_; rintro e w1 ⟨rfl, h1, h2⟩; have H1 := Aside.mk h1; have H2 := Aside.mk h2; have h3 := h2.block_eq (k := g) H.out.ne H.out.cells; have k1 : w1.cell? ⟨g, 3, none⟩ = some (.bool q.cut) := (blk_cell h3 3).trans rfl; have k2 := blk_frozen h3 3; clear h1 h2 h3)
    go_end0
    exact ⟨rfl, Fin.out w1 H1.out H2.out⟩
def RS.err (q : RS) : Int := if q.cut = true then 2 else if q.bad = true then 11 else if q.over = true then 3 else 0
set_option maxRecDepth 100000 in
set_option maxHeartbeats 1000000 in
theorem Ierr_any {w : World} {g r : Nat} {q : RS} (h : InS w g r q) :
    Calls Tryd.prog 38 #[.pointer (some ⟨g, 0, none⟩)] w fun e w' => e = .returned (.int .i64 q.err) ∧ w = w' := by
  have c1 : w.cell? ⟨g, 1, none⟩ = some (.bool q.bad) := (blk_cell h.cells 1).trans rfl
  have c2 : w.cell? ⟨g, 2, none⟩ = some (.bool q.over) := (blk_cell h.cells 2).trans rfl
  have c3 : w.cell? ⟨g, 3, none⟩ = some (.bool q.cut) := (blk_cell h.cells 3).trans rfl
  clear h
  unfold RS.err
  generalize q.bad = x1 at *
  generalize q.over = x2 at *
  generalize q.cut = x3 at *
  cases x3 <;> cases x1 <;> cases x2
  all_goals
    go_enter Tryd.func38, Tryd.ntmps38
    go_wp2
    go_ret
    exact ⟨rfl, rfl⟩
end Go.Proofs.YtflofpnagfoeeaaDoor
