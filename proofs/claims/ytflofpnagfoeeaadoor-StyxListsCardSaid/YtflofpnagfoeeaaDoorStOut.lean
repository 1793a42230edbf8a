/- The visitor that writes (package styx, output): what each method leaves in memory. -/
import Derived.Test.YtflofpnagfoeeaaDoorStWr
import Derived.Deep.RegionWith
namespace Go.Proofs.YtflofpnagfoeeaaDoor
open Go.RowKit

/-- The output o at block g: what is wrong, what is too much, its bytes. -/
def OutS (F : Nat → Prop) (w : World) (g : Nat) (bad over : Bool) (xs : List Int) : Prop := ∃ v, Wr F w g 63 v [.bool bad, .bool over] xs
/-- What a method of it leaves. -/
def OutDone (F : Nat → Prop) (w : World) (g : Nat) (bad over : Bool) (xs : List Int) (e : Ending) (w' : World) : Prop :=
  e = .returned (.tuple #[]) ∧ OutS F w' g bad over xs ∧ Upd F w w'
theorem OutS.cell {F : Nat → Prop} {w : World} {g : Nat} {bad over : Bool} {xs : List Int} (h : OutS F w g bad over xs) :
    w.cell? ⟨g, 1, none⟩ = some (.bool bad) ∧ w.cell? ⟨g, 2, none⟩ = some (.bool over) ∧ w.frozen? ⟨g, 1, none⟩ = false ∧ w.frozen? ⟨g, 2, none⟩ = false := by
  obtain ⟨v, h⟩ := h
  exact ⟨(blk_cell h.cells 1).trans rfl, (blk_cell h.cells 2).trans rfl, h.frozen0 1, h.frozen0 2⟩
theorem OutS.setBad {F : Nat → Prop} {w : World} {g : Nat} {bad over : Bool} {xs : List Int} (h : OutS F w g bad over xs) (b : Bool) : OutS F (w.setCell ⟨g, 1, none⟩ (.bool b)) g b over xs ∧ Upd F w (w.setCell ⟨g, 1, none⟩ (.bool b)) := by
  obtain ⟨v, h⟩ := h
  exact ⟨⟨v, (h.setMore 0 (.bool b)).1⟩, (h.setMore 0 (.bool b)).2⟩
theorem OutS.setOver {F : Nat → Prop} {w : World} {g : Nat} {bad over : Bool} {xs : List Int} (h : OutS F w g bad over xs) (b : Bool) : OutS F (w.setCell ⟨g, 2, none⟩ (.bool b)) g bad b xs ∧ Upd F w (w.setCell ⟨g, 2, none⟩ (.bool b)) := by
  obtain ⟨v, h⟩ := h
  exact ⟨⟨v, (h.setMore 1 (.bool b)).1⟩, (h.setMore 1 (.bool b)).2⟩
theorem OutS.of {F : Nat → Prop} {w : World} {g : Nat} {v : Value} {bad over : Bool} {xs : List Int} (h : Wr F w g 63 v [.bool bad, .bool over] xs) : OutS F w g bad over xs := ⟨v, h⟩
theorem OutS.drew {F : Nat → Prop} {w : World} {g : Nat} {bad over : Bool} {xs : List Int} (h : OutS F w g bad over xs) : OutS F w.drew g bad over xs := by
  obtain ⟨v, h⟩ := h
  exact ⟨v, h.drew⟩
theorem OutS.alloc {F : Nat → Prop} {w : World} {g : Nat} {bad over : Bool} {xs : List Int} (h : OutS F w g bad over xs) (o : Obj) : OutS F (w.alloc o) g bad over xs := by
  obtain ⟨v, h⟩ := h
  exact ⟨v, h.alloc o⟩
theorem OutS.new (w : World) : OutS (fun k => w.heap.size ≤ k) (w.alloc (.cells #[.slice none 0 0, .bool false, .bool false] 63)) w.heap.size false false [] :=
  ⟨.slice none 0 0, ⟨by simpa using heap_alloc_new w _, World.ownsRow_nil _ 0 5 1, Nat.le_refl _, fun k hk => by simp [Value.ownBlock] at hk, fun k hk => by simp at hk; omega, by decide⟩⟩
theorem OutS.away {F : Nat → Prop} {w : World} {g : Nat} {bad over : Bool} {xs : List Int} (h : OutS F w g bad over xs) (o : Obj) : OutS (fun k => F k ∧ k ≠ w.heap.size) (w.alloc o) g bad over xs := by
  obtain ⟨v, h⟩ := h
  exact ⟨v, h.away o⟩
theorem OutS.wide {F F1 : Nat → Prop} {w : World} {g : Nat} {bad over : Bool} {xs : List Int} (h : OutS F w g bad over xs) (hF : ∀ k, F k → F1 k) : OutS F1 w g bad over xs := by
  obtain ⟨v, h⟩ := h
  exact ⟨v, h.wide hF⟩
theorem OutS.lt {F : Nat → Prop} {w : World} {g : Nat} {bad over : Bool} {xs : List Int} (h : OutS F w g bad over xs) : g < w.heap.size := by
  obtain ⟨v, h⟩ := h
  exact blk_lt h.cells
theorem OutS.keep {F F1 : Nat → Prop} {w w1 : World} {g : Nat} {bad over : Bool} {xs : List Int} (h : OutS F w g bad over xs) (hu : Upd F1 w w1) (hd : ∀ k, F k → k < w.heap.size → ¬ F1 k) : OutS F w1 g bad over xs := by
  obtain ⟨v, h⟩ := h
  exact ⟨v, h.keep hu hd⟩

set_option maxRecDepth 100000 in
set_option maxHeartbeats 1000000 in
theorem Onum_any {F : Nat → Prop} {w : World} {g : Nat} {bad over : Bool} {xs : List Int} (n sz : Int) (p : Addr) (h : OutS F w g bad over xs) (hp : w.cell? p = some (.int .i64 n)) (hs : sz = 1 ∨ sz = 2 ∨ sz = 4) (hl : xs.length + 8 ≤ 1000000000) :
    Calls Tryd.prog 27 #[.pointer (some ⟨g, 0, none⟩), .pointer (some p), .int .i64 sz] w (OutDone F w g (bad || !fitsU n sz.toNat) over (xs ++ litBytes n sz.toNat)) := by
  obtain ⟨v, h⟩ := h
  have H := Aside.mk h
  clear h
  have HS := Aside.mk hs
  clear hs
  cases hf : fitsU n sz.toNat with
  | true =>
    have e0 : litErr n sz.toNat = 0 := by simp [litErr, hf]
    have E0 := Aside.mk e0
    clear e0 hf
    go_enter Tryd.func27, Tryd.ntmps27
    go_wp2
    go_region_with (go_at_call 26; refine (Little_any n sz H.out.drew HS.out hl).mono ?_; rintro e w1 ⟨rfl, v1, hw1, hu1⟩; rw [E0.out]; have HW1 := Aside.mk hw1; have HU1 := Aside.mk hu1; clear hw1 hu1)
    all_goals
      go_wp2
      go_end0
      exact ⟨rfl, ⟨v1, by simpa using HW1.out⟩, ((Upd.refl F w).drew).trans HU1.out⟩
  | false =>
    have e0 : litErr n sz.toNat = 11 := by simp [litErr, hf]
    have E0 := Aside.mk e0
    clear e0 hf
    go_enter Tryd.func27, Tryd.ntmps27
    go_wp2
    go_region_with (go_at_call 26; refine (Little_any n sz H.out.drew HS.out hl).mono ?_; rintro e w1 ⟨rfl, v1, hw1, hu1⟩; rw [E0.out]; have HW1 := Aside.mk (OutS.of hw1); have HU1 := Aside.mk hu1; clear hw1 hu1)
    all_goals
      have hc1 := HW1.out.cell.1
      have hf1 := HW1.out.cell.2.2.1
      go_wp2
      go_end0
      have HP := HW1.out.setBad true
      exact ⟨rfl, by simpa using HP.1, ((Upd.refl F w).drew).trans (HU1.out.trans HP.2)⟩

set_option maxRecDepth 100000 in
set_option maxHeartbeats 1000000 in
theorem Oleast_any {F : Nat → Prop} {w : World} {g : Nat} {bad over : Bool} {xs : List Int} (n m : Int) (h : OutS F w g bad over xs) (hl : xs.length + 8 ≤ 1000000000) (h0 : -9223372036854775808 ≤ n) (h1 : n < 9223372036854775808) :
    Calls Tryd.prog 92 #[.pointer (some ⟨g, 0, none⟩), .int .i64 n, .int .i64 m] w (OutDone F w g (bad || decide (n < m)) over (xs ++ leb n 8)) := by
  have H := Aside.mk h
  have B0 := Aside.mk h0
  have B1 := Aside.mk h1
  clear h h0 h1
  by_cases hnm : n < m
  · have hc1 := H.out.cell.1
    have hf1 := H.out.cell.2.2.1
    have HP := Aside.mk (H.out.setBad true)
    have e1 : (bad || decide (n < m)) = true := by simp [hnm]
    rw [e1]
    clear e1
    go_enter Tryd.func92, Tryd.ntmps92
    go_wp2_with (go_at_call 94; obtain ⟨v1, hv1⟩ := HP.out.1; have HV1 := Aside.mk hv1; clear hv1; refine (Signed_any n HV1.out hl B0.out B1.out).mono ?_; rintro e w1 ⟨rfl, v2, hw1, hu1⟩; have HW1 := Aside.mk (OutS.of hw1); have HU1 := Aside.mk hu1; clear hw1 hu1)
    go_end0
    exact ⟨rfl, HW1.out, HP.out.2.trans HU1.out⟩
  · have e1 : (bad || decide (n < m)) = bad := by simp [hnm]
    rw [e1]
    clear e1
    go_enter Tryd.func92, Tryd.ntmps92
    go_wp2_with (go_at_call 94; obtain ⟨v1, hv1⟩ := H.out; have HV1 := Aside.mk hv1; clear hv1; refine (Signed_any n HV1.out hl B0.out B1.out).mono ?_; rintro e w1 ⟨rfl, v2, hw1, hu1⟩; have HW1 := Aside.mk (OutS.of hw1); have HU1 := Aside.mk hu1; clear hw1 hu1)
    go_end0
    exact ⟨rfl, HW1.out, HU1.out⟩

set_option maxRecDepth 100000 in
set_option maxHeartbeats 1000000 in
theorem Olong_any {F : Nat → Prop} {w : World} {g : Nat} {bad over : Bool} {xs : List Int} (n : Int) (p : Addr) (h : OutS F w g bad over xs) (hp : w.cell? p = some (.int .i64 n)) (hl : xs.length + 8 ≤ 1000000000) (h0 : -9223372036854775808 ≤ n) (h1 : n < 9223372036854775808) :
    Calls Tryd.prog 86 #[.pointer (some ⟨g, 0, none⟩), .pointer (some p)] w (OutDone F w g (bad || decide (n < 0)) over (xs ++ leb n 8)) := by
  have H := Aside.mk (Oleast_any n 0 h hl h0 h1)
  clear h h0 h1
  go_enter Tryd.func86, Tryd.ntmps86
  go_wp2_with (go_at_call 92; refine H.out.mono ?_; rintro e w1 ⟨rfl, hw1⟩; have HW1 := Aside.mk hw1; clear hw1)
  go_end0
  exact ⟨rfl, HW1.out⟩

set_option maxRecDepth 100000 in
set_option maxHeartbeats 1000000 in
theorem Ooptional_any {F : Nat → Prop} {w : World} {g : Nat} {bad over : Bool} {xs : List Int} (n : Int) (p : Addr) (h : OutS F w g bad over xs) (hp : w.cell? p = some (.int .i64 n)) (hl : xs.length + 8 ≤ 1000000000) (h0 : -9223372036854775808 ≤ n) (h1 : n < 9223372036854775808) :
    Calls Tryd.prog 89 #[.pointer (some ⟨g, 0, none⟩), .pointer (some p)] w (OutDone F w g (bad || decide (n < -1)) over (xs ++ leb n 8)) := by
  have H := Aside.mk (Oleast_any n (-1) h hl h0 h1)
  clear h h0 h1
  go_enter Tryd.func89, Tryd.ntmps89
  go_wp2_with (go_at_call 92; refine H.out.mono ?_; rintro e w1 ⟨rfl, hw1⟩; have HW1 := Aside.mk hw1; clear hw1)
  go_end0
  exact ⟨rfl, HW1.out⟩

def modeBad (n : Int) : Bool := decide (n < -1 ∨ 4294967295 ≤ n)
def modeVal (n : Int) : Int := if n = -1 then 4294967295 else n
set_option maxRecDepth 100000 in
set_option maxHeartbeats 1000000 in
theorem Omode_any {F : Nat → Prop} {w : World} {g : Nat} {bad over : Bool} {xs : List Int} (n : Int) (p : Addr) (h : OutS F w g bad over xs) (hp : w.cell? p = some (.int .i64 n)) (hl : xs.length + 8 ≤ 1000000000) :
    Calls Tryd.prog 87 #[.pointer (some ⟨g, 0, none⟩), .pointer (some p)] w (OutDone F w g (bad || modeBad n) over (xs ++ litBytes (modeVal n) 4)) := by
  have H := Aside.mk h
  clear h
  by_cases h1 : n < -1 ∨ 4294967295 ≤ n
  · have e1 : modeBad n = true := by simp [modeBad, h1]
    have e2 : modeVal n = n := if_neg (by omega)
    rw [e1, e2, Bool.or_true]
    clear e1 e2
    have hc1 := H.out.cell.1
    have hf1 := H.out.cell.2.2.1
    have HP := Aside.mk (H.out.setBad true)
    have hcall : ∀ (W : World), OutS F W g true over xs → Calls Tryd.prog 26 #[.pointer (some ⟨g, 0, none⟩), .int .i64 n, .int .i64 4] W (fun e w1 => (∃ z, e = .returned (.int .i64 z)) ∧ OutS F w1 g true over (xs ++ litBytes n 4) ∧ Upd F W w1) := fun W hW => by
      obtain ⟨v, hv⟩ := hW
      exact (Little_any n 4 hv (by omega) hl).mono (fun e w1 hd => ⟨⟨_, hd.1⟩, OutS.of hd.2.choose_spec.1, hd.2.choose_spec.2⟩)
    have HC := Aside.mk hcall
    clear hcall
    rcases h1 with h1 | h1
    · go_enter Tryd.func87, Tryd.ntmps87
      go_wp2_with (go_at_call 26; refine (HC.out _ HP.out.1).mono ?_; rintro e w1 ⟨⟨z, rfl⟩, hw1, hu1⟩; have HW1 := Aside.mk hw1; have HU1 := Aside.mk hu1; clear hw1 hu1)
      go_end0
      exact ⟨rfl, HW1.out, HP.out.2.trans HU1.out⟩
    · have h2 : ¬ n < -1 := by omega
      go_enter Tryd.func87, Tryd.ntmps87
      go_wp2_with (go_at_call 26; refine (HC.out _ HP.out.1).mono ?_; rintro e w1 ⟨⟨z, rfl⟩, hw1, hu1⟩; have HW1 := Aside.mk hw1; have HU1 := Aside.mk hu1; clear hw1 hu1)
      go_end0
      exact ⟨rfl, HW1.out, HP.out.2.trans HU1.out⟩
  · have e1 : modeBad n = false := by simp only [modeBad, decide_eq_false_iff_not]; exact h1
    rw [e1, Bool.or_false]
    clear e1
    have h2 : ¬ n < -1 := by omega
    have h3 : ¬ 4294967295 ≤ n := by omega
    clear h1
    have hcall : ∀ m : Int, Calls Tryd.prog 26 #[.pointer (some ⟨g, 0, none⟩), .int .i64 m, .int .i64 4] w (fun e w1 => (∃ z, e = .returned (.int .i64 z)) ∧ OutS F w1 g bad over (xs ++ litBytes m 4) ∧ Upd F w w1) := fun m => by
      obtain ⟨v, hv⟩ := H.out
      exact (Little_any m 4 hv (by omega) hl).mono (fun e w1 hd => ⟨⟨_, hd.1⟩, OutS.of hd.2.choose_spec.1, hd.2.choose_spec.2⟩)
    have HC := Aside.mk hcall
    clear hcall
    by_cases h4 : n = -1
    · subst h4
      rw [show modeVal (-1) = 4294967295 from rfl]
      go_enter Tryd.func87, Tryd.ntmps87
      go_wp2_with (go_at_call 26; refine (HC.out _).mono ?_; rintro e w1 ⟨⟨z, rfl⟩, hw1, hu1⟩; have HW1 := Aside.mk hw1; have HU1 := Aside.mk hu1; clear hw1 hu1)
      go_end0
      exact ⟨rfl, HW1.out, HU1.out⟩
    · have e2 : modeVal n = n := if_neg h4
      rw [e2]
      clear e2
      have h5 : (n == -1) = false := beq_eq_false_iff_ne.2 h4
      clear h4
      go_enter Tryd.func87, Tryd.ntmps87
      go_wp2_with (go_at_call 26; refine (HC.out _).mono ?_; rintro e w1 ⟨⟨z, rfl⟩, hw1, hu1⟩; have HW1 := Aside.mk hw1; have HU1 := Aside.mk hu1; clear hw1 hu1)
      go_end0
      exact ⟨rfl, HW1.out, HU1.out⟩

def sizedOk (s : ByteArray) (size : Nat) : Bool := fitsU s.size size && decide (s.size ≤ 8192)
def sizedBytes (s : ByteArray) (size : Nat) : List Int := litBytes s.size size ++ (if sizedOk s size = true then byts s else [])
theorem sizedBytes_length (s : ByteArray) (size : Nat) : (sizedBytes s size).length ≤ size + 8192 := by
  have := litBytes_length s.size size
  unfold sizedBytes
  split
  · rename_i h
    simp [sizedOk] at h
    simp
    omega
  · simp
    omega
set_option maxRecDepth 100000 in
set_option maxHeartbeats 1000000 in
theorem Osized_any {F : Nat → Prop} {w : World} {g : Nat} {bad over : Bool} {xs : List Int} (s : ByteArray) (sz : Int) (h : OutS F w g bad over xs) (hs : sz = 1 ∨ sz = 2 ∨ sz = 4) (hl : xs.length + 8 ≤ 1000000000) (hsm : s.size ≤ 9223372036854775807) :
    Calls Tryd.prog 55 #[.pointer (some ⟨g, 0, none⟩), .string s, .int .i64 sz] w (OutDone F w g bad (over || !sizedOk s sz.toNat) (xs ++ sizedBytes s sz.toNat)) := by
  have hcall : Calls Tryd.prog 26 #[.pointer (some ⟨g, 0, none⟩), .int .i64 s.size, .int .i64 sz] w (fun e w1 => e = .returned (.int .i64 (litErr s.size sz.toNat)) ∧ OutS F w1 g bad over (xs ++ litBytes s.size sz.toNat) ∧ Upd F w w1) := by
    obtain ⟨v, hv⟩ := h
    exact (Little_any s.size sz hv hs hl).mono (fun e w1 hd => ⟨hd.1, OutS.of hd.2.choose_spec.1, hd.2.choose_spec.2⟩)
  have HC := Aside.mk hcall
  have hlb := litBytes_length s.size sz.toNat
  have hs4 : sz.toNat ≤ 4 := by omega
  clear hcall h hs
  by_cases hf : fitsU s.size sz.toNat = true
  · have E0 := Aside.mk (show litErr s.size sz.toNat = 0 by simp [litErr, hf])
    by_cases h8 : s.size ≤ 8192
    · have EO := Aside.mk (show sizedOk s sz.toNat = true by simp [sizedOk, hf, h8])
      have EB := Aside.mk (show sizedBytes s sz.toNat = litBytes s.size sz.toNat ++ byts s by simp [sizedBytes, EO.out])
      rw [EO.out, EB.out]
      have h9 : ¬ (8192 : Int) < (s.size : Int) := by omega
      have HLEN := Aside.mk (show (xs ++ litBytes s.size sz.toNat).length + s.size ≤ 2000000000 by simp only [List.length_append]; omega)
      clear hf hlb hs4
      go_enter Tryd.func55, Tryd.ntmps55
      go_wp2_with (first | (go_at_call 26; refine HC.out.mono ?_; rintro e w1 ⟨rfl, hw1, hu1⟩; rw [E0.out]; have HW1 := Aside.mk hw1; have HU1 := Aside.mk hu1; clear hw1 hu1) | (go_at_call 32; obtain ⟨v1, hv1⟩ := HW1.out; have HV1 := Aside.mk hv1; clear hv1; refine (Raw_any s HV1.out HLEN.out).mono ?_; rintro e w2 ⟨rfl, v2, hw2, hu2⟩; have HW2 := Aside.mk (OutS.of hw2); have HU2 := Aside.mk hu2; clear hw2 hu2))
      go_end0
      exact ⟨rfl, by simpa using HW2.out, HU1.out.trans HU2.out⟩
    · have EO := Aside.mk (show sizedOk s sz.toNat = false by simp [sizedOk, h8])
      have EB := Aside.mk (show sizedBytes s sz.toNat = litBytes s.size sz.toNat by simp [sizedBytes, EO.out])
      rw [EO.out, EB.out]
      have h9 : (8192 : Int) < (s.size : Int) := by omega
      clear hf hlb h8 hs4
      go_enter Tryd.func55, Tryd.ntmps55
      go_wp2_with (first | (go_at_call 26; refine HC.out.mono ?_; rintro e w1 ⟨rfl, hw1, hu1⟩; rw [E0.out]; have hc1 := hw1.cell.2.1; have hf1 := hw1.cell.2.2.2; have HW1 := Aside.mk (hw1.setOver true); have HU1 := Aside.mk hu1; clear hw1 hu1))
      go_end0
      exact ⟨rfl, by simpa using HW1.out.1, HU1.out.trans HW1.out.2⟩
  · have E0 := Aside.mk (show litErr s.size sz.toNat = 11 by simp [litErr, hf])
    have EO := Aside.mk (show sizedOk s sz.toNat = false by simp [sizedOk, hf])
    have EB := Aside.mk (show sizedBytes s sz.toNat = litBytes s.size sz.toNat by simp [sizedBytes, EO.out])
    rw [EO.out, EB.out]
    clear hf hlb hs4
    go_enter Tryd.func55, Tryd.ntmps55
    go_wp2_with (first | (go_at_call 26; refine HC.out.mono ?_; rintro e w1 ⟨rfl, hw1, hu1⟩; rw [E0.out]; have hc1 := hw1.cell.2.1; have hf1 := hw1.cell.2.2.2; have HW1 := Aside.mk (hw1.setOver true); have HU1 := Aside.mk hu1; clear hw1 hu1))
    go_end0
    exact ⟨rfl, by simpa using HW1.out.1, HU1.out.trans HW1.out.2⟩

theorem Osized2_any {F : Nat → Prop} {w : World} {g : Nat} {bad over : Bool} {xs : List Int} (s : ByteArray) (h : OutS F w g bad over xs) (hl : xs.length + 8 ≤ 1000000000) (hsm : s.size ≤ 9223372036854775807) :
    Calls Tryd.prog 55 #[.pointer (some ⟨g, 0, none⟩), .string s, .int .i64 2] w (OutDone F w g bad (over || !sizedOk s 2) (xs ++ sizedBytes s 2)) := Osized_any s 2 h (by omega) hl hsm
set_option maxRecDepth 100000 in
theorem Otext_any {F : Nat → Prop} {w : World} {g : Nat} {bad over : Bool} {xs : List Int} (s : ByteArray) (p : Addr) (h : OutS F w g bad over xs) (hp : w.cell? p = some (.string s)) (hl : xs.length + 8 ≤ 1000000000) (hsm : s.size ≤ 9223372036854775807) :
    Calls Tryd.prog 91 #[.pointer (some ⟨g, 0, none⟩), .pointer (some p)] w (OutDone F w g bad (over || !sizedOk s 2) (xs ++ sizedBytes s 2)) := by
  have H := Aside.mk (Osized_any s 2 h (by omega) hl hsm)
  clear h
  go_enter Tryd.func91, Tryd.ntmps91
  go_wp2_with (go_at_call 55; refine H.out.mono ?_; rintro e w1 ⟨rfl, hw1⟩; have HW1 := Aside.mk hw1; clear hw1)
  go_end0
  exact ⟨rfl, HW1.out⟩
set_option maxRecDepth 100000 in
theorem Odata_any {F : Nat → Prop} {w : World} {g : Nat} {bad over : Bool} {xs : List Int} (s : ByteArray) (p : Addr) (h : OutS F w g bad over xs) (hp : w.cell? p = some (.string s)) (hl : xs.length + 8 ≤ 1000000000) (hsm : s.size ≤ 9223372036854775807) :
    Calls Tryd.prog 85 #[.pointer (some ⟨g, 0, none⟩), .pointer (some p)] w (OutDone F w g bad (over || !sizedOk s 4) (xs ++ sizedBytes s 4)) := by
  have H := Aside.mk (Osized_any s 4 h (by omega) hl hsm)
  clear h
  go_enter Tryd.func85, Tryd.ntmps85
  go_wp2_with (go_at_call 55; refine H.out.mono ?_; rintro e w1 ⟨rfl, hw1⟩; have HW1 := Aside.mk hw1; clear hw1)
  go_end0
  exact ⟨rfl, HW1.out⟩

def outErr (bad over : Bool) : Int := if bad = true then 11 else if over = true then 3 else 0
set_option maxRecDepth 100000 in
theorem Oerr_any {F : Nat → Prop} {w : World} {g : Nat} {bad over : Bool} {xs : List Int} (h : OutS F w g bad over xs) :
    Calls Tryd.prog 30 #[.pointer (some ⟨g, 0, none⟩)] w fun e w' => e = .returned (.int .i64 (outErr bad over)) ∧ w = w' := by
  have hc1 := h.cell.1
  have hc2 := h.cell.2.1
  clear h
  cases bad <;> cases over
  all_goals
    go_enter Tryd.func30, Tryd.ntmps30
    go_wp2
    go_ret
    exact ⟨rfl, rfl⟩
theorem Onum1_any {F : Nat → Prop} {w : World} {g : Nat} {bad over : Bool} {xs : List Int} (n : Int) (p : Addr) (h : OutS F w g bad over xs) (hp : w.cell? p = some (.int .i64 n)) (hl : xs.length + 8 ≤ 1000000000) :
    Calls Tryd.prog 27 #[.pointer (some ⟨g, 0, none⟩), .pointer (some p), .int .i64 1] w (OutDone F w g (bad || !fitsU n 1) over (xs ++ litBytes n 1)) := Onum_any n 1 p h hp (by omega) hl
theorem Onum2_any {F : Nat → Prop} {w : World} {g : Nat} {bad over : Bool} {xs : List Int} (n : Int) (p : Addr) (h : OutS F w g bad over xs) (hp : w.cell? p = some (.int .i64 n)) (hl : xs.length + 8 ≤ 1000000000) :
    Calls Tryd.prog 27 #[.pointer (some ⟨g, 0, none⟩), .pointer (some p), .int .i64 2] w (OutDone F w g (bad || !fitsU n 2) over (xs ++ litBytes n 2)) := Onum_any n 2 p h hp (by omega) hl
theorem Onum4_any {F : Nat → Prop} {w : World} {g : Nat} {bad over : Bool} {xs : List Int} (n : Int) (p : Addr) (h : OutS F w g bad over xs) (hp : w.cell? p = some (.int .i64 n)) (hl : xs.length + 8 ≤ 1000000000) :
    Calls Tryd.prog 27 #[.pointer (some ⟨g, 0, none⟩), .pointer (some p), .int .i64 4] w (OutDone F w g (bad || !fitsU n 4) over (xs ++ litBytes n 4)) := Onum_any n 4 p h hp (by omega) hl
end Go.Proofs.YtflofpnagfoeeaaDoor
