/- EncodeDir and CheckDir: what they return; in the form that printed texts call. -/
import Derived.Test.YtflofpnagfoeeaaDoorStDir
set_option linter.unusedSimpArgs false
set_option linter.unusedVariables false
namespace Go.Proofs.YtflofpnagfoeeaaDoor
open Go.RowKit

theorem dirAt_new (w : World) (d : DirV) : DirAt (w.alloc (.cells d.cells.toArray 34)) w.heap.size 0 d := fun i u hi => by
  simp only [Nat.zero_add]
  rw [World.cell?_alloc_new]
  simpa using hi
/-- What EncodeDir returns. -/
def encErr (d : DirV) : Int := outErr (bodyBad d) (dirOver d || !sizedOk (strOfNums (bodyBytes d)) 2)
def encStr (d : DirV) : ByteArray := strOfNums (sizedBytes (strOfNums (bodyBytes d)) 2)
def encF (d : DirV) : ByteArray × Int := if encErr d = 0 then (encStr d, 0) else (ByteArray.empty, encErr d)
theorem errErr_cases (d : DirV) : encErr d = 0 ∨ encErr d = 3 ∨ encErr d = 11 := by
  unfold encErr outErr
  split
  · exact .inr (.inr rfl)
  · split
    · exact .inr (.inl rfl)
    · exact .inl rfl

theorem Oerr_zero {F : Nat → Prop} {w : World} {g : Nat} {bad over : Bool} {xs : List Int} (h : OutS F w g bad over xs) (k : Int) (hk : outErr bad over = k) :
    Calls Tryd.prog 30 #[.pointer (some ⟨g, 0, none⟩)] w fun e w' => e = .returned (.int .i64 k) ∧ w = w' := by
  subst hk
  exact Oerr_any h
set_option maxRecDepth 100000 in
set_option maxHeartbeats 4000000 in
theorem EncodeDir_any (w : World) (d : DirV) (hw : d.Wf) :
    Calls Tryd.prog 19 #[.agg d.cells.toArray] w fun e w' => e = .returned (.tuple #[.string (encF d).1, .int .i64 (encF d).2]) ∧ Below w.heap.size w w' := by
  have HW := Aside.mk hw
  have HN := OutS.new (w.alloc (.cells d.cells.toArray 34))
  have HD := dirAt_new w d
  have hF : ¬ (w.alloc (.cells d.cells.toArray 34)).heap.size ≤ w.heap.size := by simp
  have hdir := Odir_any w.heap.size 0 d HN (by simp) (HD.keep ((Upd.refl (fun k => (w.alloc (.cells d.cells.toArray 34)).heap.size ≤ k) _).alloc _) hF) hw hF
  simp only [World.size_alloc] at hdir
  have HDir := Aside.mk hdir
  clear hw hF HN HD hdir
  have done : ∀ w1, Upd (fun k => w.heap.size + 1 ≤ k) ((w.alloc (.cells d.cells.toArray 34)).alloc (.cells #[.slice none 0 0, .bool false, .bool false] 63)) w1 → Below w.heap.size w w1 := fun w1 hu => by
    have h1 := hu.below (by simp)
    have h2 : Below w.heap.size w ((w.alloc (.cells d.cells.toArray 34)).alloc (.cells #[.slice none 0 0, .bool false, .bool false] 63)) := ((Below.refl _ _).alloc (Nat.le_refl _) _).alloc (by simp) _
    exact h2.trans (h1.mono (by simp))
  have Done := Aside.mk done
  clear done
  rcases errErr_cases d with h0 | h0 | h0
  · have E0 := Aside.mk h0
    have EF := Aside.mk (show encF d = (strOfNums (sizedBytes (strOfNums (bodyBytes d)) 2), 0) by simp [encF, encStr, h0])
    rw [EF.out]
    clear h0
    unfold DirV.cells at HDir Done ⊢
    go_enter Tryd.func19, Tryd.ntmps19
    go_wp2_with (first | (go_at_call 41; refine (HDir.out).mono ?_; rintro e w1 ⟨rfl, hw1, hu1⟩; rw [List.nil_append] at hw1; have HW1 := Aside.mk hw1; have HU1 := Aside.mk hu1; clear hw1 hu1) | (go_at_call 30; refine (Oerr_zero HW1.out 0 E0.out).mono ?_; rintro e w2 ⟨rfl, rfl⟩) | (go_at_call 33; refine (Text_out HW1.out).mono ?_; rintro e w2 ⟨rfl, rfl⟩))
    go_ret2
    exact ⟨rfl, Done.out _ HU1.out⟩
  · have E0 := Aside.mk h0
    have EF := Aside.mk (show encF d = (ByteArray.empty, 3) by simp [encF, h0])
    rw [EF.out]
    clear h0
    unfold DirV.cells at HDir Done ⊢
    go_enter Tryd.func19, Tryd.ntmps19
    go_wp2_with (first | (go_at_call 41; refine (HDir.out).mono ?_; rintro e w1 ⟨rfl, hw1, hu1⟩; rw [List.nil_append] at hw1; have HW1 := Aside.mk hw1; have HU1 := Aside.mk hu1; clear hw1 hu1) | (go_at_call 30; refine (Oerr_zero HW1.out 3 E0.out).mono ?_; rintro e w2 ⟨rfl, rfl⟩))
    go_ret2
    exact ⟨rfl, Done.out _ HU1.out⟩
  · have E0 := Aside.mk h0
    have EF := Aside.mk (show encF d = (ByteArray.empty, 11) by simp [encF, h0])
    rw [EF.out]
    clear h0
    unfold DirV.cells at HDir Done ⊢
    go_enter Tryd.func19, Tryd.ntmps19
    go_wp2_with (first | (go_at_call 41; refine (HDir.out).mono ?_; rintro e w1 ⟨rfl, hw1, hu1⟩; rw [List.nil_append] at hw1; have HW1 := Aside.mk hw1; have HU1 := Aside.mk hu1; clear hw1 hu1) | (go_at_call 30; refine (Oerr_zero HW1.out 11 E0.out).mono ?_; rintro e w2 ⟨rfl, rfl⟩))
    go_ret2
    exact ⟨rfl, Done.out _ HU1.out⟩
set_option maxRecDepth 100000 in
set_option maxHeartbeats 4000000 in
theorem CheckDir_any (w : World) (d : DirV) (hw : d.Wf) :
    Calls Tryd.prog 11 #[.agg d.cells.toArray] w fun e w' => e = .returned (.int .i64 (encF d).2) ∧ Below w.heap.size w w' := by
  have HE := Aside.mk (EncodeDir_any (w.alloc (.cells d.cells.toArray 34)) d hw)
  clear hw
  unfold DirV.cells at HE ⊢
  go_enter Tryd.func11, Tryd.ntmps11
  go_wp2_with (go_at_call 19; refine (HE.out).mono ?_; rintro e w1 ⟨rfl, hb1⟩; have HB1 := Aside.mk hb1; clear hb1)
  go_ret
  exact ⟨rfl, ((Below.refl _ _).alloc (Nat.le_refl _) _).trans (HB1.out.mono (by simp))⟩

/-- The form that printed texts call. -/
def dirV (a0 a1 a2 a3 a4 a5 : Int) (a6 a7 a8 a9 : ByteArray) : DirV := ⟨a0, a1, a2, a3, a4, a5, a6, a7, a8, a9⟩
def styx_EncodeDir.f (a0 a1 a2 a3 a4 a5 : Int) (a6 a7 a8 a9 : ByteArray) : Option (ByteArray × Int) := if (dirV a0 a1 a2 a3 a4 a5 a6 a7 a8 a9).ok = true then some (encF (dirV a0 a1 a2 a3 a4 a5 a6 a7 a8 a9)) else none
theorem styx_EncodeDir.calls (a0 a1 a2 a3 a4 a5 : Int) (a6 a7 a8 a9 : ByteArray) (r1 : ByteArray) (r2 : Int) (w : World) (h : styx_EncodeDir.f a0 a1 a2 a3 a4 a5 a6 a7 a8 a9 = some (r1, r2)) :
    Calls Tryd.prog 19 #[.agg #[.int .i64 a0, .int .i64 a1, .int .i64 a2, .int .i64 a3, .int .i64 a4, .int .i64 a5, .string a6, .string a7, .string a8, .string a9]] w fun e w' => e = .returned (.tuple #[.string r1, .int .i64 r2]) ∧ Below w.heap.size w w' := by
  unfold styx_EncodeDir.f at h
  split at h
  · rename_i hw
    have h1 := EncodeDir_any w _ (DirV.ok_wf hw)
    simp only [Option.some.injEq] at h
    rw [h] at h1
    exact h1
  · cases h
def styx_CheckDir.f (a0 a1 a2 a3 a4 a5 : Int) (a6 a7 a8 a9 : ByteArray) : Option Int := if (dirV a0 a1 a2 a3 a4 a5 a6 a7 a8 a9).ok = true then some (encF (dirV a0 a1 a2 a3 a4 a5 a6 a7 a8 a9)).2 else none
theorem styx_CheckDir.calls (a0 a1 a2 a3 a4 a5 : Int) (a6 a7 a8 a9 : ByteArray) (r : Int) (w : World) (h : styx_CheckDir.f a0 a1 a2 a3 a4 a5 a6 a7 a8 a9 = some r) :
    Calls Tryd.prog 11 #[.agg #[.int .i64 a0, .int .i64 a1, .int .i64 a2, .int .i64 a3, .int .i64 a4, .int .i64 a5, .string a6, .string a7, .string a8, .string a9]] w fun e w' => e = .returned (.int .i64 r) ∧ Below w.heap.size w w' := by
  unfold styx_CheckDir.f at h
  split at h
  · rename_i hw
    have h1 := CheckDir_any w _ (DirV.ok_wf hw)
    simp only [Option.some.injEq] at h
    rw [h] at h1
    exact h1
  · cases h
end Go.Proofs.YtflofpnagfoeeaaDoor
