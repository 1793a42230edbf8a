/- Encode at the two messages of the laws' example. -/
import Derived.Test.YtflofpnagfoeeaaDoorStFld
set_option linter.unusedSimpArgs false
set_option linter.unusedVariables false
namespace Go.Proofs.YtflofpnagfoeeaaDoor
open Go.RowKit

def isKnown (k : Int) : Bool := !(wordR k).toList.isEmpty
theorem isKnown_eq (k : Int) : isKnown k = (k == 107 || isReq k || isReq (wrap64 (k - 1))) := by
  unfold isKnown wordR
  by_cases h1 : k = 107
  · rw [if_pos h1]
    subst h1
    kernel_rfl
  · rw [if_neg h1, show (k == 107) = false from beq_eq_false_iff_ne.2 h1, Bool.false_or]
    by_cases h2 : isReq k = true
    · rw [if_pos h2, wordS_req, h2, Bool.true_or]
    · rw [if_neg h2, Bool.eq_false_iff.2 h2, Bool.false_or]
      by_cases h3 : isReq (wrap64 (k - 1)) = true
      · rw [if_pos h3, h3, ByteArray.toList_eq]
        simp [ByteArray.data_append]
      · rw [if_neg h3, Bool.eq_false_iff.2 h3]
        exact word_empty
set_option maxRecDepth 100000 in
theorem known_any {B : Nat} {w : World} (k : Int) (h : WordsIn B w) (hk : -9223372036854775808 ≤ k ∧ k < 9223372036854775808) :
    Calls Tryd.prog 24 #[.int .i64 k] w fun e w' => e = .returned (.bool (isKnown k)) ∧ w = w' := by
  have H := Aside.mk (Word_any k h hk)
  have E : Aside (isKnown k = !(wordR k).toList.isEmpty) := ⟨rfl⟩
  clear h hk
  generalize wordR k = s at *
  rw [E.out]
  go_enter Tryd.func24, Tryd.ntmps24
  go_wp2_with (go_at_call 49; refine H.out.mono ?_; rintro e w1 ⟨rfl, rfl⟩)
  go_ret
  exact ⟨rfl, rfl⟩
theorem Wr.newWriter (w : World) : Wr (fun k => w.heap.size ≤ k) (w.alloc (.cells #[.slice none 0 0] 61)) w.heap.size 61 (.slice none 0 0) [] [] :=
  ⟨by simpa using heap_alloc_new w _, World.ownsRow_nil _ 0 5 1, Nat.le_refl _, fun k hk => by simp [Value.ownBlock] at hk, fun k hk => by simp at hk; omega, by decide⟩
theorem Little_out {F : Nat → Prop} {w : World} {g : Nat} {bad over : Bool} {xs : List Int} (n sz : Int) (h : OutS F w g bad over xs) (hs : sz = 1 ∨ sz = 2 ∨ sz = 4) (hl : xs.length + 8 ≤ 1000000000) :
    Calls Tryd.prog 26 #[.pointer (some ⟨g, 0, none⟩), .int .i64 n, .int .i64 sz] w fun e w' => e = .returned (.int .i64 (litErr n sz.toNat)) ∧ OutS F w' g bad over (xs ++ litBytes n sz.toNat) ∧ Upd F w w' := by
  obtain ⟨v, h⟩ := h
  exact (Little_any n sz h hs hl).mono (fun e w1 hd => ⟨hd.1, OutS.of hd.2.choose_spec.1, hd.2.choose_spec.2⟩)
theorem OutS.belowW {F : Nat → Prop} {w w1 : World} {g : Nat} {bad over : Bool} {xs : List Int} (h : OutS F w g bad over xs) (hb : Below w.heap.size w w1) : OutS F w1 g bad over xs := by
  obtain ⟨v, h⟩ := h
  exact ⟨v, h.fresh hb⟩
/-- A writer of one's own, made in world w5. -/
def WrS (w5 : World) (w : World) (xs : List Int) : Prop := ∃ v, Wr (fun k => w5.heap.size ≤ k) w w5.heap.size 61 v [] xs
theorem WrS.new (w : World) : WrS w (w.alloc (.cells #[.slice none 0 0] 61)) [] := ⟨_, Wr.newWriter w⟩
theorem WrS.Little4 {w5 w : World} {xs : List Int} (n : Int) (h : WrS w5 w xs) (hl : xs.length + 8 ≤ 1000000000) :
    Calls Tryd.prog 26 #[.pointer (some ⟨w5.heap.size, 0, none⟩), .int .i64 n, .int .i64 4] w fun e w' => e = .returned (.int .i64 (litErr n 4)) ∧ WrS w5 w' (xs ++ litBytes n 4) ∧ Upd (fun k => w5.heap.size ≤ k) w w' := by
  obtain ⟨v, h⟩ := h
  exact (Little_any n 4 h (by omega) hl).mono (fun e w1 hd => ⟨hd.1, ⟨_, hd.2.choose_spec.1⟩, hd.2.choose_spec.2⟩)
theorem WrS.Raw {w5 w : World} {xs : List Int} (s : ByteArray) (h : WrS w5 w xs) (hl : xs.length + s.size ≤ 2000000000) :
    Calls Tryd.prog 32 #[.pointer (some ⟨w5.heap.size, 0, none⟩), .string s] w fun e w' => e = .returned (.int .i64 0) ∧ WrS w5 w' (xs ++ byts s) ∧ Upd (fun k => w5.heap.size ≤ k) w w' := by
  obtain ⟨v, h⟩ := h
  exact (Raw_any s h hl).mono (fun e w1 hd => ⟨hd.1, ⟨_, hd.2.choose_spec.1⟩, hd.2.choose_spec.2⟩)
theorem WrS.Text {w5 w : World} {xs : List Int} (h : WrS w5 w xs) :
    Calls Tryd.prog 33 #[.pointer (some ⟨w5.heap.size, 0, none⟩)] w fun e w' => e = .returned (.string (strOfNums xs)) ∧ w = w' := by
  obtain ⟨v, h⟩ := h
  exact Text_any h
theorem byts_strOfNums (xs : List Int) (h : ∀ x ∈ xs, 0 ≤ x ∧ x < 256) : byts (strOfNums xs) = xs := by
  unfold byts
  rw [strOfNums_data, List.map_map]
  conv => rhs; rw [← List.map_id xs]
  refine List.map_congr_left (fun x hx => ?_)
  have := h x hx
  simp only [Function.comp_apply, id_eq]
  rw [UInt8.toNat_ofNat_of_lt' (by show x.toNat < 256; omega)]
  omega
set_option maxRecDepth 100000 in
set_option maxHeartbeats 4000000 in
theorem Encode_clunk {B : Nat} (w : World) (hW : WordsIn B w) :
    Calls Tryd.prog 14 #[.agg (msgCells 120 1 2 0 0 0 0 0 0 ⟨#[]⟩ ⟨#[]⟩ ⟨#[]⟩ ⟨#[]⟩ (.slice none 0 0) (.slice none 0 0) ⟨#[]⟩ ⟨0, 0, 0, 0, 0, 0, ⟨#[]⟩, ⟨#[]⟩, ⟨#[]⟩, ⟨#[]⟩⟩ 0).toArray] w fun e w' => e = .returned (.tuple #[.string ⟨#[11, 0, 0, 0, 120, 1, 0, 2, 0, 0, 0]⟩, .int .i64 0]) ∧ Below w.heap.size w w' := by
  have HC : Aside ((w.alloc (.cells (msgCells 120 1 2 0 0 0 0 0 0 ⟨#[]⟩ ⟨#[]⟩ ⟨#[]⟩ ⟨#[]⟩ (.slice none 0 0) (.slice none 0 0) ⟨#[]⟩ ⟨0, 0, 0, 0, 0, 0, ⟨#[]⟩, ⟨#[]⟩, ⟨#[]⟩, ⟨#[]⟩⟩ 0).toArray 46)).heap[w.heap.size]? = some (.cells (msgCells 120 1 2 0 0 0 0 0 0 ⟨#[]⟩ ⟨#[]⟩ ⟨#[]⟩ ⟨#[]⟩ (.slice none 0 0) (.slice none 0 0) ⟨#[]⟩ ⟨0, 0, 0, 0, 0, 0, ⟨#[]⟩, ⟨#[]⟩, ⟨#[]⟩, ⟨#[]⟩⟩ 0).toArray 46 (0, 0))) := ⟨by simpa using heap_alloc_new w _⟩
  have HK := Aside.mk (known_any 120 (hW.below ((Below.refl _ _).alloc (Nat.le_refl _) (.cells (msgCells 120 1 2 0 0 0 0 0 0 ⟨#[]⟩ ⟨#[]⟩ ⟨#[]⟩ ⟨#[]⟩ (.slice none 0 0) (.slice none 0 0) ⟨#[]⟩ ⟨0, 0, 0, 0, 0, 0, ⟨#[]⟩, ⟨#[]⟩, ⟨#[]⟩, ⟨#[]⟩⟩ 0).toArray 46))) (by omega))
  have HS := Aside.mk (fun W => shaped_clunk W 1 2)
  have EK : Aside (isKnown 120 = true) := ⟨by rw [isKnown_eq]; decide⟩
  rw [EK.out] at HK
  clear hW
  unfold msgCells at HK HS HC ⊢
  go_enter Tryd.func14, Tryd.ntmps14
  go_wp2_with (first | (go_at_call 24; refine HK.out.mono ?_; rintro e w1 ⟨rfl, rfl⟩) | (go_at_call 25; refine (HS.out _).mono ?_; rintro e w1 ⟨rfl, hb1⟩; have HB1 := Aside.mk hb1; clear hb1) | (with_reducible refine wpList_load_row rfl 46 (.tmp 1) rfl w.heap.size rfl 46 _ (0, 0) _ HC.out Tryd.underlying46 rfl (by as_aux_lemma => kernel_rfl) ?_))
  have HN := Aside.mk (OutS.new w1)
  have UW := Aside.mk (show Upd (fun k => w.heap.size + 1 ≤ k) (w.alloc (.cells (msgCells 120 1 2 0 0 0 0 0 0 ⟨#[]⟩ ⟨#[]⟩ ⟨#[]⟩ ⟨#[]⟩ (.slice none 0 0) (.slice none 0 0) ⟨#[]⟩ ⟨0, 0, 0, 0, 0, 0, ⟨#[]⟩, ⟨#[]⟩, ⟨#[]⟩, ⟨#[]⟩⟩ 0).toArray 46)) w1 from (Upd.of_below HB1.out).mono (fun k hk => by simpa using hk))
  have hM := UW.out.block_eq (k := w.heap.size) (by omega) HC.out
  have HM := Aside.mk hM
  have c0 : (w1.alloc (.cells #[.slice none 0 0, .bool false, .bool false] 63)).cell? ⟨w.heap.size, 0, none⟩ = some (.int .i64 120) := (World.cell?_alloc_lt _ _ _ (blk_lt hM)).trans ((blk_cell hM 0).trans rfl)
  have hlt := blk_lt hM
  have hsz : w.heap.size < w1.heap.size := hlt
  clear hM hlt
  go_region_with (refine (Little_out 120 1 HN.out.drew (by omega) (by simp)).mono ?_; rintro e w2 ⟨rfl, hw2, hu2⟩; have HW2 := Aside.mk hw2; have HU2 := Aside.mk hu2; clear hw2 hu2)
  have HM2 := Aside.mk (HU2.out.block_eq (k := w.heap.size) (by omega) (blk_alloc HM.out))
  clear c0
  have L2 := Aside.mk (show (([] : List Int) ++ litBytes 120 (1 : Int).toNat).length = 1 by decide)
  have L3 := Aside.mk (show (([] : List Int) ++ litBytes 120 (1 : Int).toNat ++ litBytes 1 2).length = 3 by decide)
  have EB := Aside.mk (show (false || !fitsU 1 2 || !fitsU 2 4) = false by decide)
  have EX := Aside.mk (show (([] : List Int) ++ litBytes 120 (1 : Int).toNat ++ litBytes 1 2 ++ litBytes 2 4) = [120, 1, 0, 2, 0, 0, 0] by decide)
  go_wp2_with (first | (go_at_call 27; refine (Onum2_any 1 ⟨w.heap.size, 1, none⟩ HW2.out ((blk_cell HM2.out 1).trans rfl) (by rw [L2.out]; decide)).mono ?_; rintro e w3 ⟨rfl, hw3, hu3⟩; have HW3 := Aside.mk hw3; have HU3 := Aside.mk hu3; have HM3 := Aside.mk (hu3.block_eq (k := w.heap.size) (by omega) HM2.out); clear hw3 hu3) | (go_at_call 28; refine (fields_out_clunk 1 2 0 0 0 0 0 0 ⟨#[]⟩ ⟨#[]⟩ ⟨#[]⟩ ⟨#[]⟩ (.slice none 0 0) (.slice none 0 0) ⟨#[]⟩ ⟨0, 0, 0, 0, 0, 0, ⟨#[]⟩, ⟨#[]⟩, ⟨#[]⟩, ⟨#[]⟩⟩ 0 HW3.out (by rw [L3.out]; decide) HM3.out).mono ?_; rintro e w4 ⟨rfl, hw4, hu4⟩; rw [EB.out, EX.out] at hw4; have HW4 := Aside.mk hw4; have HU4 := Aside.mk hu4; have d1 := hw4.cell.2.1; have d2 := hw4.cell.2.2.2; clear hw4 hu4) | (go_at_call 29; refine (Len_out HW4.out).mono ?_; rintro e w5 ⟨rfl, rfl⟩))
  have hO5 := HW4.out.setOver false
  have EE := Aside.mk (show outErr false false = 0 from rfl)
  have HN5 := Aside.mk (WrS.new (w4.setCell ⟨w1.heap.size, 2, none⟩ (.bool false)))
  have HO5 := Aside.mk hO5.1
  have HO6 := Aside.mk (hO5.1.belowW ((Below.refl _ _).alloc (Nat.le_refl _) (.cells #[.slice none 0 0] 61)))
  have U5 := Aside.mk hO5.2
  have ES := Aside.mk (byts_strOfNums [120, 1, 0, 2, 0, 0, 0] (by decide))
  have EL := Aside.mk (show litBytes 11 4 = [11, 0, 0, 0] by decide)
  have ZS := Aside.mk (strOfNums_size [120, 1, 0, 2, 0, 0, 0])
  clear hO5 d1 d2
  generalize hw5 : w4.setCell ⟨w1.heap.size, 2, none⟩ (.bool false) = w5 at *
  have HH5 := Aside.mk hw5
  clear hw5
  go_wp2_with (first | (go_at_call 30; refine (Oerr_zero HO5.out 0 EE.out).mono ?_; rintro e w6 ⟨rfl, rfl⟩) | (go_at_call 31; refine (NewWriter_any _).mono ?_; rintro e w6 ⟨rfl, rfl⟩) | (go_at_call 29; refine (Len_out HO6.out).mono ?_; rintro e w7 ⟨rfl, rfl⟩) | (go_at_call 26; refine (WrS.Little4 11 HN5.out (by simp)).mono ?_; rintro e w8 ⟨rfl, hw8, hu8⟩; have HW8 := Aside.mk hw8; have HU8 := Aside.mk hu8; clear hw8 hu8))
  have B8 := Aside.mk (((Below.refl w5.heap.size w5).alloc (Nat.le_refl _) (.cells #[.slice none 0 0] 61)).trans (HU8.out.below (by simp)))
  refine (Text_out (HO5.out.belowW B8.out)).mono ?_
  rintro e w9 ⟨rfl, rfl⟩
  go_wp2_with (go_at_call 32; refine (WrS.Raw _ HW8.out (by rw [ZS.out, EL.out]; decide)).mono ?_; rintro e w10 ⟨rfl, hw10, hu10⟩; have HW10 := Aside.mk hw10; have HU10 := Aside.mk hu10; clear hw10 hu10)
  refine HW10.out.Text.mono ?_
  rintro e w11 ⟨rfl, rfl⟩
  rw [ES.out, EL.out]
  go_wp2_with fail
  go_ret2
  refine ⟨rfl, ?_⟩
  have h1 : Upd (fun k => w.heap.size ≤ k) w w1 := ((Upd.refl _ w).alloc _).trans (UW.out.mono (fun k hk => by omega))
  have h2 : Upd (fun k => w.heap.size ≤ k) w1 w4 := (((((Upd.refl (fun k => w1.heap.size ≤ k) w1).alloc _).drew.trans HU2.out).trans HU3.out).trans HU4.out).mono (fun k hk => by omega)
  have h3 : Upd (fun k => w.heap.size ≤ k) w4 w5 := U5.out.mono (fun k hk => by omega)
  have h4 := h1.trans (h2.trans h3)
  have h5 : Upd (fun k => w.heap.size ≤ k) w5 w10 := ((Upd.of_below B8.out).trans HU10.out).mono (fun k hk => Nat.le_trans h4.size hk)
  exact (h4.trans h5).below (Nat.le_refl _)
set_option maxRecDepth 100000 in
set_option maxHeartbeats 4000000 in
theorem Encode_error {B : Nat} (w : World) (hW : WordsIn B w) :
    Calls Tryd.prog 14 #[.agg (msgCells 107 65535 0 0 0 0 0 0 0 ⟨#[]⟩ ⟨#[]⟩ ⟨#[]⟩ ⟨#[]⟩ (.slice none 0 0) (.slice none 0 0) ⟨#[]⟩ ⟨0, 0, 0, 0, 0, 0, ⟨#[]⟩, ⟨#[]⟩, ⟨#[]⟩, ⟨#[]⟩⟩ 4).toArray] w fun e w' => e = .returned (.tuple #[.string ⟨#[9, 0, 0, 0, 107, 255, 255, 4, 0]⟩, .int .i64 0]) ∧ Below w.heap.size w w' := by
  have HC : Aside ((w.alloc (.cells (msgCells 107 65535 0 0 0 0 0 0 0 ⟨#[]⟩ ⟨#[]⟩ ⟨#[]⟩ ⟨#[]⟩ (.slice none 0 0) (.slice none 0 0) ⟨#[]⟩ ⟨0, 0, 0, 0, 0, 0, ⟨#[]⟩, ⟨#[]⟩, ⟨#[]⟩, ⟨#[]⟩⟩ 4).toArray 46)).heap[w.heap.size]? = some (.cells (msgCells 107 65535 0 0 0 0 0 0 0 ⟨#[]⟩ ⟨#[]⟩ ⟨#[]⟩ ⟨#[]⟩ (.slice none 0 0) (.slice none 0 0) ⟨#[]⟩ ⟨0, 0, 0, 0, 0, 0, ⟨#[]⟩, ⟨#[]⟩, ⟨#[]⟩, ⟨#[]⟩⟩ 4).toArray 46 (0, 0))) := ⟨by simpa using heap_alloc_new w _⟩
  have HK := Aside.mk (known_any 107 (hW.below ((Below.refl _ _).alloc (Nat.le_refl _) (.cells (msgCells 107 65535 0 0 0 0 0 0 0 ⟨#[]⟩ ⟨#[]⟩ ⟨#[]⟩ ⟨#[]⟩ (.slice none 0 0) (.slice none 0 0) ⟨#[]⟩ ⟨0, 0, 0, 0, 0, 0, ⟨#[]⟩, ⟨#[]⟩, ⟨#[]⟩, ⟨#[]⟩⟩ 4).toArray 46))) (by omega))
  have HS := Aside.mk (fun W => shaped_error W 65535 4)
  have EK : Aside (isKnown 107 = true) := ⟨by rw [isKnown_eq]; decide⟩
  rw [EK.out] at HK
  clear hW
  unfold msgCells at HK HS HC ⊢
  go_enter Tryd.func14, Tryd.ntmps14
  go_wp2_with (first | (go_at_call 24; refine HK.out.mono ?_; rintro e w1 ⟨rfl, rfl⟩) | (go_at_call 25; refine (HS.out _).mono ?_; rintro e w1 ⟨rfl, hb1⟩; have HB1 := Aside.mk hb1; clear hb1) | (with_reducible refine wpList_load_row rfl 46 (.tmp 1) rfl w.heap.size rfl 46 _ (0, 0) _ HC.out Tryd.underlying46 rfl (by as_aux_lemma => kernel_rfl) ?_))
  have HN := Aside.mk (OutS.new w1)
  have UW := Aside.mk (show Upd (fun k => w.heap.size + 1 ≤ k) (w.alloc (.cells (msgCells 107 65535 0 0 0 0 0 0 0 ⟨#[]⟩ ⟨#[]⟩ ⟨#[]⟩ ⟨#[]⟩ (.slice none 0 0) (.slice none 0 0) ⟨#[]⟩ ⟨0, 0, 0, 0, 0, 0, ⟨#[]⟩, ⟨#[]⟩, ⟨#[]⟩, ⟨#[]⟩⟩ 4).toArray 46)) w1 from (Upd.of_below HB1.out).mono (fun k hk => by simpa using hk))
  have hM := UW.out.block_eq (k := w.heap.size) (by omega) HC.out
  have HM := Aside.mk hM
  have c0 : (w1.alloc (.cells #[.slice none 0 0, .bool false, .bool false] 63)).cell? ⟨w.heap.size, 0, none⟩ = some (.int .i64 107) := (World.cell?_alloc_lt _ _ _ (blk_lt hM)).trans ((blk_cell hM 0).trans rfl)
  have hlt := blk_lt hM
  have hsz : w.heap.size < w1.heap.size := hlt
  clear hM hlt
  go_region_with (refine (Little_out 107 1 HN.out.drew (by omega) (by simp)).mono ?_; rintro e w2 ⟨rfl, hw2, hu2⟩; have HW2 := Aside.mk hw2; have HU2 := Aside.mk hu2; clear hw2 hu2)
  have HM2 := Aside.mk (HU2.out.block_eq (k := w.heap.size) (by omega) (blk_alloc HM.out))
  clear c0
  have L2 := Aside.mk (show (([] : List Int) ++ litBytes 107 (1 : Int).toNat).length = 1 by decide)
  have L3 := Aside.mk (show (([] : List Int) ++ litBytes 107 (1 : Int).toNat ++ litBytes 65535 2).length = 3 by decide)
  have EB := Aside.mk (show (false || !fitsU 65535 2 || !fitsU 4 2) = false by decide)
  have EX := Aside.mk (show (([] : List Int) ++ litBytes 107 (1 : Int).toNat ++ litBytes 65535 2 ++ litBytes 4 2) = [107, 255, 255, 4, 0] by decide)
  go_wp2_with (first | (go_at_call 27; refine (Onum2_any 65535 ⟨w.heap.size, 1, none⟩ HW2.out ((blk_cell HM2.out 1).trans rfl) (by rw [L2.out]; decide)).mono ?_; rintro e w3 ⟨rfl, hw3, hu3⟩; have HW3 := Aside.mk hw3; have HU3 := Aside.mk hu3; have HM3 := Aside.mk (hu3.block_eq (k := w.heap.size) (by omega) HM2.out); clear hw3 hu3) | (go_at_call 28; refine (fields_out_error 65535 0 0 0 0 0 0 0 ⟨#[]⟩ ⟨#[]⟩ ⟨#[]⟩ ⟨#[]⟩ (.slice none 0 0) (.slice none 0 0) ⟨#[]⟩ ⟨0, 0, 0, 0, 0, 0, ⟨#[]⟩, ⟨#[]⟩, ⟨#[]⟩, ⟨#[]⟩⟩ 4 HW3.out (by rw [L3.out]; decide) (by omega) HM3.out).mono ?_; rintro e w4 ⟨rfl, hw4, hu4⟩; rw [EB.out, EX.out] at hw4; have HW4 := Aside.mk hw4; have HU4 := Aside.mk hu4; have d1 := hw4.cell.2.1; have d2 := hw4.cell.2.2.2; clear hw4 hu4) | (go_at_call 29; refine (Len_out HW4.out).mono ?_; rintro e w5 ⟨rfl, rfl⟩))
  have hO5 := HW4.out.setOver false
  have EE := Aside.mk (show outErr false false = 0 from rfl)
  have HN5 := Aside.mk (WrS.new (w4.setCell ⟨w1.heap.size, 2, none⟩ (.bool false)))
  have HO5 := Aside.mk hO5.1
  have HO6 := Aside.mk (hO5.1.belowW ((Below.refl _ _).alloc (Nat.le_refl _) (.cells #[.slice none 0 0] 61)))
  have U5 := Aside.mk hO5.2
  have ES := Aside.mk (byts_strOfNums [107, 255, 255, 4, 0] (by decide))
  have EL := Aside.mk (show litBytes 9 4 = [9, 0, 0, 0] by decide)
  have ZS := Aside.mk (strOfNums_size [107, 255, 255, 4, 0])
  clear hO5 d1 d2
  generalize hw5 : w4.setCell ⟨w1.heap.size, 2, none⟩ (.bool false) = w5 at *
  have HH5 := Aside.mk hw5
  clear hw5
  go_wp2_with (first | (go_at_call 30; refine (Oerr_zero HO5.out 0 EE.out).mono ?_; rintro e w6 ⟨rfl, rfl⟩) | (go_at_call 31; refine (NewWriter_any _).mono ?_; rintro e w6 ⟨rfl, rfl⟩) | (go_at_call 29; refine (Len_out HO6.out).mono ?_; rintro e w7 ⟨rfl, rfl⟩) | (go_at_call 26; refine (WrS.Little4 9 HN5.out (by simp)).mono ?_; rintro e w8 ⟨rfl, hw8, hu8⟩; have HW8 := Aside.mk hw8; have HU8 := Aside.mk hu8; clear hw8 hu8))
  have B8 := Aside.mk (((Below.refl w5.heap.size w5).alloc (Nat.le_refl _) (.cells #[.slice none 0 0] 61)).trans (HU8.out.below (by simp)))
  refine (Text_out (HO5.out.belowW B8.out)).mono ?_
  rintro e w9 ⟨rfl, rfl⟩
  go_wp2_with (go_at_call 32; refine (WrS.Raw _ HW8.out (by rw [ZS.out, EL.out]; decide)).mono ?_; rintro e w10 ⟨rfl, hw10, hu10⟩; have HW10 := Aside.mk hw10; have HU10 := Aside.mk hu10; clear hw10 hu10)
  refine HW10.out.Text.mono ?_
  rintro e w11 ⟨rfl, rfl⟩
  rw [ES.out, EL.out]
  go_wp2_with fail
  go_ret2
  refine ⟨rfl, ?_⟩
  have h1 : Upd (fun k => w.heap.size ≤ k) w w1 := ((Upd.refl _ w).alloc _).trans (UW.out.mono (fun k hk => by omega))
  have h2 : Upd (fun k => w.heap.size ≤ k) w1 w4 := ((((Upd.refl (fun k => w1.heap.size ≤ k) w1).alloc _).drew.trans HU2.out).trans HU3.out |>.mono (fun k hk => by omega)).trans (HU4.out.mono (fun k hk => by omega))
  have h3 : Upd (fun k => w.heap.size ≤ k) w4 w5 := U5.out.mono (fun k hk => by omega)
  have h4 := h1.trans (h2.trans h3)
  have h5 : Upd (fun k => w.heap.size ≤ k) w5 w10 := ((Upd.of_below B8.out).trans HU10.out).mono (fun k hk => Nat.le_trans h4.size hk)
  exact (h4.trans h5).below (Nat.le_refl _)
end Go.Proofs.YtflofpnagfoeeaaDoor
