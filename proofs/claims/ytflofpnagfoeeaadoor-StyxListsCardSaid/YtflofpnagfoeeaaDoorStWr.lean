/- Writers of bytes (package wire): what each method leaves in memory. -/
import Derived.Test.YtflofpnagfoeeaaDoorRows
import Derived.Test.YtflofpnagfoeeaaDoorStMem
import Derived.Deep.AppendLies
import Derived.Deep.RegionLaw
import Derived.Deep.QuietTactic
import Derived.BigQuiet
import Derived.Deep.LoopGhost
import Derived.Lib.AppendStr
import Derived.IntWalk
namespace Go.Proofs.YtflofpnagfoeeaaDoor
open Go.RowKit

/-- The bytes of a number, the least significant one first. -/
def leb (n : Int) : Nat → List Int
  | 0 => []
  | k + 1 => leb n k ++ [n / 2 ^ (8 * k) % 256]
@[simp] theorem leb_length (n : Int) (k : Nat) : (leb n k).length = k := by induction k with | zero => rfl | succ k ih => simp [leb, ih]

theorem Tryd.info5 : (Tryd.prog.info? 5).map (fun i => (i.zero, i.size, i.bytes)) = some (some (.int .u8 0), 1, 1) := by kernel_rfl

theorem u8_wrap (x : Int) : IntKind.u8.wrap x = x % 256 := by simp [IntKind.wrap, IntKind.signed, IntKind.bits]

set_option maxHeartbeats 1000000 in
set_option maxRecDepth 100000 in
theorem little_any {F : Nat → Prop} {w : World} {g : Nat} {T : TypeId} {v : Value} {more : List Value} {xs : List Int} (n sz : Int) (h : Wr F w g T v more xs) (hs0 : 0 ≤ sz) (hs : sz ≤ 8) (hl : xs.length + 8 ≤ 1000000000) :
    Calls Tryd.prog 52 #[.pointer (some ⟨g, 0, none⟩), .int .i64 n, .int .i64 sz] w fun e w' => e = .returned (.int .i64 0) ∧ ∃ v', Wr F w' g T v' more (xs ++ leb n sz.toNat) ∧ Upd F w w' := by
  obtain ⟨size, rfl⟩ := Int.eq_ofNat_of_zero_le hs0
  rw [Int.toNat_natCast]
  obtain ⟨i0, hi, hz0, hz1, hz2⟩ := info_parts Tryd.info5
  have H := Aside.mk h
  clear h
  go_enter Tryd.func52, Tryd.ntmps52
  go_wp2
  go_loopw [7, 9] (fun _ i wr => ∃ (k : Nat) (vk : Value), k ≤ size ∧ i = .int .i64 k ∧ Aside (Wr F wr g T vk more (xs ++ leb n k)) ∧ Aside (Upd F w wr)) (fun _ i _ => size - (intOf i).toNat)
  case atStart => exact ⟨0, v, Nat.zero_le _, rfl, ⟨by simpa [leb] using H.out⟩, ⟨Upd.refl _ _⟩⟩
  case round =>
    obtain ⟨k, vk, hk, rfl, HW, HU⟩ := hrel
    by_cases hlt : k < size
    · have hc0 := HW.out.cell0
      have hf0 := HW.out.frozen0 0
      have e1 : IntKind.i64.wrap (8 * (k : Int)) = 8 * (k : Int) := IntWalk.i64_in _ (by omega)
      have e2 : 0 ≤ 8 * (k : Int) := by omega
      have e3 : 8 * (k : Int) ≤ 64 := by omega
      have e4 : (8 * (k : Int)).toNat = 8 * k := by omega
      go_wp2
      have e5 : IntKind.u8.wrap (n / 2 ^ (8 * k)) = n / 2 ^ (8 * k) % 256 := u8_wrap _
      have hcA := HW.out.cellA
      go_region_law (refine Wr.append1 (F := F) (g := g) (T := T) (v := vk) (more := more) (xs := xs ++ leb n k) (by with_reducible repeat (first | exact HW.out | apply Wr.drew | apply Wr.alloc)) rfl (.tmp 16) (.tmp 22) 59 rfl Tryd.underlying59 Tryd.info5 rfl wr.heap.size (n / 2 ^ (8 * k) % 256) rfl (by simp) (by simp only [List.length_append, leb_length]; omega) ?_; intro g1 c1 w1 ha1; have HA1 := Aside.mk ha1; clear ha1; have hb1 := ((HW.out.alloc _).drew).block_apd HA1.out; have hc1 := (blk_cell hb1 0).trans rfl; have hf1 := blk_frozen hb1 0; clear hb1)
      all_goals
        clear hc0 hf0 hcA hc1 hf1
        go_wp2
        go_roundw
        case measure => simp [intOf]; omega
        case rel =>
          have HP := (HW.out.alloc _).drew.put_apd HA1.out
          refine ⟨k + 1, .slice (some ⟨g1, 0, none⟩) (xs.length + k + 1) c1, by omega, by go_num, ⟨?_⟩, ⟨?_⟩⟩
          · have h1 := HP.1
            simp only [List.length_append, leb_length] at h1
            rw [leb, ← List.append_assoc]
            exact h1
          · have h2 := HP.2
            simp only [List.length_append, leb_length] at h2
            exact HU.out.trans ((((Upd.refl F wr).alloc _).drew).trans h2)
    · have : k = size := by omega
      subst this
      go_wp2
      go_ret
      exact ⟨rfl, vk, HW.out, HU.out⟩

set_option maxHeartbeats 1000000 in
theorem indexInt_four (x : Int) (b : Nat) (w : World) (h0 : w.cell? ⟨b, 0, none⟩ = some (.int .i64 1)) (h1 : w.cell? ⟨b, 1, none⟩ = some (.int .i64 2)) (h2 : w.cell? ⟨b, 2, none⟩ = some (.int .i64 4)) (h3 : w.cell? ⟨b, 3, none⟩ = some (.int .i64 8))
    (hx : x = 1 ∨ x = 2 ∨ x = 4 ∨ x = 8) :
    Calls Tryd.prog 67 #[.slice (some ⟨b, 0, none⟩) 4 4, .int .i64 x] w fun e w' => (∃ i : Int, 0 ≤ i ∧ e = .returned (.int .i64 i)) ∧ w = w' := by
  go_enter Tryd.func67, Tryd.ntmps67
  go_wp2
  go_loop [5, 8] (fun _ i => ∃ k : Nat, k < 4 ∧ i = .int .i64 k ∧ Aside (x = 1 ∧ k ≤ 0 ∨ x = 2 ∧ k ≤ 1 ∨ x = 4 ∧ k ≤ 2 ∨ x = 8 ∧ k ≤ 3)) (fun _ i => 4 - (intOf i).toNat)
  case atStart => exact ⟨0, by omega, rfl, ⟨by omega⟩⟩
  case round =>
    obtain ⟨k, hk, rfl, ⟨HK⟩⟩ := hrel
    have HX := Aside.mk HK
    clear HK
    have HX0 := Aside.mk hx
    clear hx
    obtain rfl | rfl | rfl | rfl : k = 0 ∨ k = 1 ∨ k = 2 ∨ k = 3 := by omega
    all_goals
      go_wp2
      · go_ret
        exact ⟨⟨_, by omega, rfl⟩, rfl⟩
      · have hne : _ ≠ _ := beq_eq_false_iff_ne.1 (by assumption)
        have HX1 := HX.out
        clear HX HX0
        first
        | (exfalso; omega)
        | (go_round
           case measure => simp [intOf]
           case rel => first | exact ⟨1, by decide, rfl, ⟨by omega⟩⟩ | exact ⟨2, by decide, rfl, ⟨by omega⟩⟩ | exact ⟨3, by decide, rfl, ⟨by omega⟩⟩)
theorem containsInt_four (x : Int) (b : Nat) (w : World) (h0 : w.cell? ⟨b, 0, none⟩ = some (.int .i64 1)) (h1 : w.cell? ⟨b, 1, none⟩ = some (.int .i64 2)) (h2 : w.cell? ⟨b, 2, none⟩ = some (.int .i64 4)) (h3 : w.cell? ⟨b, 3, none⟩ = some (.int .i64 8))
    (hx : x = 1 ∨ x = 2 ∨ x = 4 ∨ x = 8) :
    Calls Tryd.prog 62 #[.slice (some ⟨b, 0, none⟩) 4 4, .int .i64 x] w fun e w' => e = .returned (.bool true) ∧ w = w' := by
  have H := Aside.mk (indexInt_four x b w h0 h1 h2 h3 hx)
  clear h0 h1 h2 h3 hx
  go_enter Tryd.func62, Tryd.ntmps62
  go_wp2_with (go_at_call 67; refine H.out.mono ?_; rintro e w' ⟨⟨i, hi, rfl⟩, rfl⟩)
  go_ret
  exact ⟨rfl, rfl⟩
theorem width_ok (x : Int) (w : World) (hx : x = 1 ∨ x = 2 ∨ x = 4 ∨ x = 8) :
    Calls Tryd.prog 51 #[.int .i64 x] w fun e w' => e = .returned (.bool true) ∧ Below w.heap.size w w' := by
  have HX := Aside.mk hx
  clear hx
  go_enter Tryd.func51, Tryd.ntmps51
  go_wp2_with (go_at_call 62; refine (containsInt_four x w.heap.size _ (by simp) (by simp) (by simp) (by simp) HX.out).mono ?_; rintro e w' ⟨rfl, rfl⟩)
  go_ret
  exact ⟨rfl, (Below.refl _ _).alloc (Nat.le_refl _) _⟩

/-- Does a number fit into some bytes. -/
def fitsU (n : Int) (size : Nat) : Bool := decide (0 ≤ n ∧ n < 2 ^ (8 * size))
def litBytes (n : Int) (size : Nat) : List Int := if fitsU n size = true then leb n size else []
def litErr (n : Int) (size : Nat) : Int := if fitsU n size = true then 0 else 11
theorem litBytes_length (n : Int) (size : Nat) : (litBytes n size).length ≤ size := by unfold litBytes; split <;> simp
/-- Little's two ways, told of its arguments and what it leaves. -/
def LitDone (F : Nat → Prop) (w : World) (g : Nat) (T : TypeId) (more : List Value) (xs : List Int) (n : Int) (size : Nat) (e : Ending) (w' : World) : Prop :=
  e = .returned (.int .i64 (litErr n size)) ∧ ∃ v', Wr F w' g T v' more (xs ++ litBytes n size) ∧ Upd F w w'
set_option maxHeartbeats 1000000 in
theorem Little_any {F : Nat → Prop} {w : World} {g : Nat} {T : TypeId} {v : Value} {more : List Value} {xs : List Int} (n sz : Int) (h : Wr F w g T v more xs) (hs : sz = 1 ∨ sz = 2 ∨ sz = 4) (hl : xs.length + 8 ≤ 1000000000) :
    Calls Tryd.prog 26 #[.pointer (some ⟨g, 0, none⟩), .int .i64 n, .int .i64 sz] w (LitDone F w g T more xs n sz.toNat) := by
  have H := Aside.mk h
  clear h
  have hw := Aside.mk (fun W : World => width_ok sz W (by omega))
  have done : ∀ (w1 : World) (e : Ending), Below w.heap.size w w1 → fitsU n sz.toNat = false → e = .returned (.int .i64 11) → LitDone F w g T more xs n sz.toNat e w1 := fun w1 e hb hf he => by
    subst he
    simp only [LitDone, litErr, litBytes, hf, Bool.false_eq_true, if_false, List.append_nil]
    exact ⟨trivial, v, H.out.fresh hb, Upd.of_fresh hb⟩
  have good : ∀ (w1 w2 : World) (v2 : Value) (e : Ending), Below w.heap.size w w1 → fitsU n sz.toNat = true → e = .returned (.int .i64 0) → Wr F w2 g T v2 more (xs ++ leb n sz.toNat) → Upd F w1 w2 → LitDone F w g T more xs n sz.toNat e w2 := fun w1 w2 v2 e hb hf he h2 hu => by
    subst he
    simp only [LitDone, litErr, litBytes, hf, if_true]
    exact ⟨trivial, v2, h2, (Upd.of_fresh hb).trans hu⟩
  have Done := Aside.mk done
  have Good := Aside.mk good
  clear done good
  by_cases h0 : n < 0
  · have F0 := Aside.mk (show fitsU n sz.toNat = false by simp only [fitsU, decide_eq_false_iff_not]; omega)
    obtain rfl | rfl | rfl := hs
    all_goals
      go_enter Tryd.func26, Tryd.ntmps26
      go_wp2_with (go_at_call 51; refine (hw.out _).mono ?_; rintro e w1 ⟨rfl, hb1⟩; have HB1 := Aside.mk hb1; clear hb1)
      go_ret
      exact Done.out w1 _ HB1.out F0.out rfl
  · have h1 : 0 ≤ n := by omega
    clear h0
    by_cases h2 : n < 2 ^ (8 * sz.toNat)
    · have F0 := Aside.mk (show fitsU n sz.toNat = true by simp only [fitsU, decide_eq_true_iff]; exact ⟨h1, h2⟩)
      obtain rfl | rfl | rfl := hs
      · have h3 : (n / 256 != 0) = false := by simp only [bne_eq_false_iff_eq]; simp at h2; omega
        clear h2
        go_enter Tryd.func26, Tryd.ntmps26
        go_wp2_with (first | (go_at_call 51; refine (hw.out _).mono ?_; rintro e w1 ⟨rfl, hb1⟩; have HB1 := Aside.mk hb1; clear hb1) | (go_at_call 52; refine (little_any n 1 (H.out.fresh HB1.out) (by omega) (by omega) hl).mono ?_; rintro e' w2 ⟨rfl, v2, hw2, hu2⟩; have H2 := Aside.mk hw2; have U2 := Aside.mk hu2; clear hw2 hu2))
        go_ret
        exact Good.out w1 w2 v2 _ HB1.out F0.out rfl H2.out U2.out
      · have h3 : (n / 65536 != 0) = false := by simp only [bne_eq_false_iff_eq]; simp at h2; omega
        clear h2
        go_enter Tryd.func26, Tryd.ntmps26
        go_wp2_with (first | (go_at_call 51; refine (hw.out _).mono ?_; rintro e w1 ⟨rfl, hb1⟩; have HB1 := Aside.mk hb1; clear hb1) | (go_at_call 52; refine (little_any n 2 (H.out.fresh HB1.out) (by omega) (by omega) hl).mono ?_; rintro e' w2 ⟨rfl, v2, hw2, hu2⟩; have H2 := Aside.mk hw2; have U2 := Aside.mk hu2; clear hw2 hu2))
        go_ret
        exact Good.out w1 w2 v2 _ HB1.out F0.out rfl H2.out U2.out
      · have h3 : (n / 4294967296 != 0) = false := by simp only [bne_eq_false_iff_eq]; simp at h2; omega
        clear h2
        go_enter Tryd.func26, Tryd.ntmps26
        go_wp2_with (first | (go_at_call 51; refine (hw.out _).mono ?_; rintro e w1 ⟨rfl, hb1⟩; have HB1 := Aside.mk hb1; clear hb1) | (go_at_call 52; refine (little_any n 4 (H.out.fresh HB1.out) (by omega) (by omega) hl).mono ?_; rintro e' w2 ⟨rfl, v2, hw2, hu2⟩; have H2 := Aside.mk hw2; have U2 := Aside.mk hu2; clear hw2 hu2))
        go_ret
        exact Good.out w1 w2 v2 _ HB1.out F0.out rfl H2.out U2.out
    · have F0 := Aside.mk (show fitsU n sz.toNat = false by simp only [fitsU, decide_eq_false_iff_not]; omega)
      obtain rfl | rfl | rfl := hs
      · have h3 : (n / 256 != 0) = true := by simp only [bne_iff_ne]; simp at h2; omega
        clear h2
        go_enter Tryd.func26, Tryd.ntmps26
        go_wp2_with (go_at_call 51; refine (hw.out _).mono ?_; rintro e w1 ⟨rfl, hb1⟩; have HB1 := Aside.mk hb1; clear hb1)
        go_ret
        exact Done.out w1 _ HB1.out F0.out rfl
      · have h3 : (n / 65536 != 0) = true := by simp only [bne_iff_ne]; simp at h2; omega
        clear h2
        go_enter Tryd.func26, Tryd.ntmps26
        go_wp2_with (go_at_call 51; refine (hw.out _).mono ?_; rintro e w1 ⟨rfl, hb1⟩; have HB1 := Aside.mk hb1; clear hb1)
        go_ret
        exact Done.out w1 _ HB1.out F0.out rfl
      · have h3 : (n / 4294967296 != 0) = true := by simp only [bne_iff_ne]; simp at h2; omega
        clear h2
        go_enter Tryd.func26, Tryd.ntmps26
        go_wp2_with (go_at_call 51; refine (hw.out _).mono ?_; rintro e w1 ⟨rfl, hb1⟩; have HB1 := Aside.mk hb1; clear hb1)
        go_ret
        exact Done.out w1 _ HB1.out F0.out rfl

set_option maxRecDepth 100000 in
set_option maxHeartbeats 1000000 in
theorem Signed_any {F : Nat → Prop} {w : World} {g : Nat} {T : TypeId} {v : Value} {more : List Value} {xs : List Int} (n : Int) (h : Wr F w g T v more xs) (hl : xs.length + 8 ≤ 1000000000) (h0 : -9223372036854775808 ≤ n) (h1 : n < 9223372036854775808) :
    Calls Tryd.prog 94 #[.pointer (some ⟨g, 0, none⟩), .int .i64 n, .int .i64 8] w fun e w' => e = .returned (.int .i64 0) ∧ ∃ v', Wr F w' g T v' more (xs ++ leb n 8) ∧ Upd F w w' := by
  have H := Aside.mk h
  clear h
  have hw := Aside.mk (fun W : World => width_ok 8 W (by omega))
  have h63 : n / 9223372036854775808 = 0 ∨ n / 9223372036854775808 = -1 := by omega
  clear h0 h1
  rcases h63 with h63 | h63
  all_goals
    have e1 : (n / 9223372036854775808 != 0) = !(n / 9223372036854775808 == 0) := rfl
    clear e1
    go_enter Tryd.func94, Tryd.ntmps94
    go_wp2_with (first | (go_at_call 51; refine (hw.out _).mono ?_; rintro e w1 ⟨rfl, hb1⟩; have HB1 := Aside.mk hb1; clear hb1) | (go_at_call 52; refine (little_any n 8 (H.out.fresh HB1.out) (by omega) (by omega) hl).mono ?_; rintro e' w2 ⟨rfl, v2, hw2, hu2⟩; have H2 := Aside.mk hw2; have U2 := Aside.mk hu2; clear hw2 hu2))
    go_ret
    exact ⟨rfl, v2, H2.out, (Upd.of_fresh HB1.out).trans U2.out⟩

set_option maxRecDepth 100000 in
set_option maxHeartbeats 1000000 in
theorem Raw_any {F : Nat → Prop} {w : World} {g : Nat} {T : TypeId} {v : Value} {more : List Value} {xs : List Int} (s : ByteArray) (h : Wr F w g T v more xs) (hl : xs.length + s.size ≤ 2000000000) :
    Calls Tryd.prog 32 #[.pointer (some ⟨g, 0, none⟩), .string s] w fun e w' => e = .returned (.int .i64 0) ∧ ∃ v', Wr F w' g T v' more (xs ++ byts s) ∧ Upd F w w' := by
  have hc0 := h.cell0
  have hf0 := h.frozen0 0
  have H := Aside.mk h
  clear h
  go_enter Tryd.func32, Tryd.ntmps32
  go_wp2_with (at_builtin; refine Wr.appendSL (F := F) (g := g) (T := T) (v := v) (more := more) (xs := xs) H.out rfl (.tmp 11) (.tmp 12) 59 9 rfl Tryd.underlying59 Tryd.underlying9 Tryd.info5 rfl s rfl hl ?_; intro A1 c1 w1 ha1; have HA1 := Aside.mk ha1; clear ha1; have hb1 := H.out.block_apd HA1.out; have hc1 := (blk_cell hb1 0).trans rfl; have hf1 := blk_frozen hb1 0; clear hb1)
  go_ret
  have HP := H.out.put_apd HA1.out
  exact ⟨rfl, _, HP.1, HP.2⟩

set_option maxHeartbeats 1000000 in
theorem Text_any {F : Nat → Prop} {w : World} {g : Nat} {T : TypeId} {v : Value} {more : List Value} {xs : List Int} (h : Wr F w g T v more xs) :
    Calls Tryd.prog 33 #[.pointer (some ⟨g, 0, none⟩)] w fun e w' => e = .returned (.string (strOfNums xs)) ∧ w = w' := by
  have hc0 := h.cell0
  have hcv := h.convert (P := Tryd.prog) Tryd.underlying59 Tryd.underlying5 Tryd.underlying9
  clear h
  go_enter Tryd.func33, Tryd.ntmps33
  go_wp2
  go_ret
  exact ⟨rfl, rfl⟩

set_option maxHeartbeats 1000000 in
theorem Len_any {F : Nat → Prop} {w : World} {g : Nat} {T : TypeId} {v : Value} {more : List Value} {xs : List Int} (h : Wr F w g T v more xs) :
    Calls Tryd.prog 29 #[.pointer (some ⟨g, 0, none⟩)] w fun e w' => e = .returned (.int .i64 xs.length) ∧ w = w' := by
  obtain ⟨A1, c1, rfl⟩ := h.shape
  have hc0 := h.cell0
  clear h
  go_enter Tryd.func29, Tryd.ntmps29
  go_wp2
  go_ret
  exact ⟨rfl, rfl⟩

set_option maxHeartbeats 1000000 in
theorem NewWriter_any (w : World) :
    Calls Tryd.prog 31 #[] w fun e w' => e = .returned (.pointer (some ⟨w.heap.size, 0, none⟩)) ∧ w' = w.alloc (.cells #[.slice none 0 0] 61) := by
  go_enter Tryd.func31, Tryd.ntmps31
  go_wp2
  go_ret
  exact ⟨rfl, rfl⟩
end Go.Proofs.YtflofpnagfoeeaaDoor
