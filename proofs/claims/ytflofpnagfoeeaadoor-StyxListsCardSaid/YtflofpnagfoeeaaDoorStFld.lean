/- fields and shaped for the messages that the laws' examples use. -/
import Derived.Test.YtflofpnagfoeeaaDoorStEnc
import Derived.Test.YtflofpnagfoeeaaDoorStWords
set_option linter.unusedSimpArgs false
set_option linter.unusedVariables false
namespace Go.Proofs.YtflofpnagfoeeaaDoor
open Go.RowKit

theorem nil_num_blank (w : World) : (nilAhead 247 93 (.agg #[]) "acheron/styx.num").run Tryd.prog w = .ok (some false) w := by kernel_rfl
theorem met_num_blank (w : World) : (method 247 93 (.agg #[]) "acheron/styx.num").run Tryd.prog w = .ok (118, .agg #[]) w := by kernel_rfl
theorem nil_long_blank (w : World) : (nilAhead 247 93 (.agg #[]) "acheron/styx.long").run Tryd.prog w = .ok (some false) w := by kernel_rfl
theorem met_long_blank (w : World) : (method 247 93 (.agg #[]) "acheron/styx.long").run Tryd.prog w = .ok (115, .agg #[]) w := by kernel_rfl
theorem nil_optional_blank (w : World) : (nilAhead 247 93 (.agg #[]) "acheron/styx.optional").run Tryd.prog w = .ok (some false) w := by kernel_rfl
theorem met_optional_blank (w : World) : (method 247 93 (.agg #[]) "acheron/styx.optional").run Tryd.prog w = .ok (119, .agg #[]) w := by kernel_rfl
theorem nil_mode_blank (w : World) : (nilAhead 247 93 (.agg #[]) "acheron/styx.mode").run Tryd.prog w = .ok (some false) w := by kernel_rfl
theorem met_mode_blank (w : World) : (method 247 93 (.agg #[]) "acheron/styx.mode").run Tryd.prog w = .ok (116, .agg #[]) w := by kernel_rfl
theorem nil_text_blank (w : World) : (nilAhead 247 93 (.agg #[]) "acheron/styx.text").run Tryd.prog w = .ok (some false) w := by kernel_rfl
theorem met_text_blank (w : World) : (method 247 93 (.agg #[]) "acheron/styx.text").run Tryd.prog w = .ok (121, .agg #[]) w := by kernel_rfl
theorem nil_data_blank (w : World) : (nilAhead 247 93 (.agg #[]) "acheron/styx.data").run Tryd.prog w = .ok (some false) w := by kernel_rfl
theorem met_data_blank (w : World) : (method 247 93 (.agg #[]) "acheron/styx.data").run Tryd.prog w = .ok (113, .agg #[]) w := by kernel_rfl
theorem nil_names_blank (w : World) : (nilAhead 247 93 (.agg #[]) "acheron/styx.names").run Tryd.prog w = .ok (some false) w := by kernel_rfl
theorem met_names_blank (w : World) : (method 247 93 (.agg #[]) "acheron/styx.names").run Tryd.prog w = .ok (117, .agg #[]) w := by kernel_rfl
theorem nil_qids_blank (w : World) : (nilAhead 247 93 (.agg #[]) "acheron/styx.qids").run Tryd.prog w = .ok (some false) w := by kernel_rfl
theorem met_qids_blank (w : World) : (method 247 93 (.agg #[]) "acheron/styx.qids").run Tryd.prog w = .ok (120, .agg #[]) w := by kernel_rfl
theorem nil_dir_blank (w : World) : (nilAhead 247 93 (.agg #[]) "acheron/styx.dir").run Tryd.prog w = .ok (some false) w := by kernel_rfl
theorem met_dir_blank (w : World) : (method 247 93 (.agg #[]) "acheron/styx.dir").run Tryd.prog w = .ok (114, .agg #[]) w := by kernel_rfl
attribute [local go_sem] nil_num_blank met_num_blank nil_num_out met_num_out nil_long_blank met_long_blank nil_long_out met_long_out nil_optional_blank met_optional_blank nil_optional_out met_optional_out nil_mode_blank met_mode_blank nil_mode_out met_mode_out nil_text_blank met_text_blank nil_text_out met_text_out nil_data_blank met_data_blank nil_data_out met_data_out nil_names_blank met_names_blank nil_names_out met_names_out nil_qids_blank met_qids_blank nil_qids_out met_qids_out nil_dir_blank met_dir_blank nil_dir_out met_dir_out

/-- The cells of a message. -/
def msgCells (kind tag fid other old size offset mode perm : Int) (ver user tree name : ByteArray) (names qids : Value) (data : ByteArray) (d : DirV) (code : Int) : List Value :=
  [.int .i64 kind, .int .i64 tag, .int .i64 fid, .int .i64 other, .int .i64 old, .int .i64 size, .int .i64 offset, .int .i64 mode, .int .i64 perm, .string ver, .string user, .string tree, .string name, names, qids, .string data,
    .int .i64 d.kind, .int .i64 d.vers, .int .i64 d.path, .int .i64 d.mode, .int .i64 d.time, .int .i64 d.length, .string d.name, .string d.owner, .string d.group, .string d.last, .int .i64 code]

set_option maxRecDepth 100000 in
theorem Bnum_any (p : Addr) (u : Value) (sz : Int) (w : World) (hc : w.cell? p = some u) (hf : w.frozen? p = false) :
    Calls Tryd.prog 118 #[.agg #[], .pointer (some p), .int .i64 sz] w fun e w' => e = .returned (.tuple #[]) ∧ w' = (w.alloc (.cells #[] 93)).setCell p (.int .i64 0) := by
  have hc' : (w.alloc (.cells #[] 93)).cell? p = some u := (World.cell?_alloc_lt _ _ p (World.block_lt_of_cell? _ _ hc)).trans hc
  have hf' : (w.alloc (.cells #[] 93)).frozen? p = false := by rw [World.frozen?_alloc_old _ _ _ (by have := World.block_lt_of_cell? _ _ hc; omega)]; exact hf
  clear hc hf
  go_enter Tryd.func118, Tryd.ntmps118
  go_wp2
  go_end0
  exact ⟨rfl, rfl⟩
/-- One block was written: it holds these cells now. -/
def BlkDone (w : World) (b : Nat) (T : TypeId) (cs : List Value) (e : Ending) (w' : World) : Prop :=
  e = .returned (.tuple #[]) ∧ w'.heap[b]? = some (.cells cs.toArray T (0, 0)) ∧ Upd (fun k => k = b) w w'
theorem Bnum_blk {w : World} {b : Nat} {T : TypeId} {cs : List Value} (off : Nat) (sz : Int) (h : w.heap[b]? = some (.cells cs.toArray T (0, 0))) (ho : off < cs.length) :
    Calls Tryd.prog 118 #[.agg #[], .pointer (some ⟨b, off, none⟩), .int .i64 sz] w (BlkDone w b T (cs.set off (.int .i64 0))) := by
  refine (Bnum_any ⟨b, off, none⟩ cs[off] sz w ((blk_cell h off).trans (by simp [ho])) (blk_frozen h off)).mono ?_
  rintro e w' ⟨rfl, rfl⟩
  refine ⟨rfl, ?_, ?_⟩
  · rw [blk_set (blk_alloc h) off]
    simp
  · exact ((Upd.refl (fun k => k = b) w).alloc _).setCell (p := ⟨b, off, none⟩) rfl _

set_option maxRecDepth 100000 in
set_option maxHeartbeats 1000000 in
theorem fields_blank_clunk {w : World} {b : Nat} (tag fid other old size offset mode perm : Int) (ver user tree name : ByteArray) (names qids : Value) (data : ByteArray) (d : DirV) (code : Int)
    (h : w.heap[b]? = some (.cells (msgCells 120 tag fid other old size offset mode perm ver user tree name names qids data d code).toArray 46 (0, 0))) :
    Calls Tryd.prog 28 #[.iface 93 (.agg #[]), .pointer (some ⟨b, 0, none⟩)] w (BlkDone w b 46 (msgCells 120 tag 0 other old size offset mode perm ver user tree name names qids data d code)) := by
  have H := Aside.mk h
  have c0 : w.cell? ⟨b, 0, none⟩ = some (.int .i64 120) := (blk_cell h 0).trans rfl
  clear h
  go_enter Tryd.func28, Tryd.ntmps28
  go_wp2
  go_region_with (refine (Bnum_blk (w := w.drew) 2 4 H.out (by simp [msgCells])).mono ?_; rintro e w1 ⟨rfl, hw1, hu1⟩; have HW1 := Aside.mk hw1; have HU1 := Aside.mk hu1; clear hw1 hu1)
  go_wp2
  go_end0
  exact ⟨rfl, HW1.out, ((Upd.refl _ w).drew).trans HU1.out⟩
set_option maxRecDepth 100000 in
set_option maxHeartbeats 1000000 in
theorem fields_out_clunk {F : Nat → Prop} {w : World} {b g : Nat} {bad over : Bool} {xs : List Int} (tag fid other old size offset mode perm : Int) (ver user tree name : ByteArray) (names qids : Value) (data : ByteArray) (d : DirV) (code : Int)
    (ho : OutS F w g bad over xs) (hl : xs.length + 8 ≤ 1000000000)
    (h : w.heap[b]? = some (.cells (msgCells 120 tag fid other old size offset mode perm ver user tree name names qids data d code).toArray 46 (0, 0))) :
    Calls Tryd.prog 28 #[.iface 58 (.pointer (some ⟨g, 0, none⟩)), .pointer (some ⟨b, 0, none⟩)] w (OutDone F w g (bad || !fitsU fid 4) over (xs ++ litBytes fid 4)) := by
  have H := Aside.mk h
  have HO := Aside.mk ho
  have c0 : w.cell? ⟨b, 0, none⟩ = some (.int .i64 120) := (blk_cell h 0).trans rfl
  clear h ho
  go_enter Tryd.func28, Tryd.ntmps28
  go_wp2
  go_region_with (refine (Onum4_any fid ⟨b, 2, none⟩ HO.out.drew ((blk_cell H.out 2).trans rfl) hl).mono ?_; rintro e w1 ⟨rfl, hw1, hu1⟩; have HW1 := Aside.mk hw1; have HU1 := Aside.mk hu1; clear hw1 hu1)
  go_wp2
  go_end0
  exact ⟨rfl, HW1.out, ((Upd.refl _ w).drew).trans HU1.out⟩

set_option maxRecDepth 100000 in
set_option maxHeartbeats 1000000 in
theorem fields_blank_error {w : World} {b : Nat} (tag fid other old size offset mode perm : Int) (ver user tree name : ByteArray) (names qids : Value) (data : ByteArray) (d : DirV) (code : Int)
    (h : w.heap[b]? = some (.cells (msgCells 107 tag fid other old size offset mode perm ver user tree name names qids data d code).toArray 46 (0, 0))) :
    Calls Tryd.prog 28 #[.iface 93 (.agg #[]), .pointer (some ⟨b, 0, none⟩)] w (BlkDone w b 46 (msgCells 107 tag fid other old size offset mode perm ver user tree name names qids data d 0)) := by
  have H := Aside.mk h
  have hlt := blk_lt h
  have c0 : w.cell? ⟨b, 0, none⟩ = some (.int .i64 107) := (blk_cell h 0).trans rfl
  have c1 : w.cell? ⟨b, 26, none⟩ = some (.int .i64 code) := (blk_cell h 26).trans rfl
  have HN : Aside ((w.alloc (.cells #[.int .i64 code] 3)).heap[w.heap.size]? = some (.cells [.int .i64 code].toArray 3 (0, 0))) := ⟨by simpa using heap_alloc_new w _⟩
  clear h
  go_enter Tryd.func28, Tryd.ntmps28
  go_wp2_with (go_at_call 118; refine (Bnum_blk 0 2 HN.out (by simp)).mono ?_; rintro e w1 ⟨rfl, hw1, hu1⟩; have HW1 := Aside.mk hw1; have HU1 := Aside.mk hu1; have hb1 := hu1.block_eq (k := b) (by omega) (blk_alloc H.out); have HB1 := Aside.mk hb1; have k0 : w1.cell? ⟨w.heap.size, 0, none⟩ = some (.int .i64 0) := (blk_cell hw1 0).trans rfl; have k1 : w1.cell? ⟨b, 26, none⟩ = some (.int .i64 code) := (blk_cell hb1 26).trans rfl; have k2 := blk_frozen hb1 26; clear hw1 hu1 hb1)
  go_end0
  refine ⟨rfl, ?_, ?_⟩
  · rw [blk_set HB1.out 26]
    rfl
  · have h1 : Upd (fun k => k = b) w w1 := ((Upd.refl (fun k => k = w.heap.size) w).alloc _).trans HU1.out |>.mono' (fun k hk e => by omega)
    exact h1.setCell (p := ⟨b, 26, none⟩) rfl _
set_option maxRecDepth 100000 in
set_option maxHeartbeats 1000000 in
theorem fields_out_error {F : Nat → Prop} {w : World} {b g : Nat} {bad over : Bool} {xs : List Int} (tag fid other old size offset mode perm : Int) (ver user tree name : ByteArray) (names qids : Value) (data : ByteArray) (d : DirV) (code : Int)
    (ho : OutS F w g bad over xs) (hl : xs.length + 8 ≤ 1000000000) (hb : ¬ F b)
    (h : w.heap[b]? = some (.cells (msgCells 107 tag fid other old size offset mode perm ver user tree name names qids data d code).toArray 46 (0, 0))) :
    Calls Tryd.prog 28 #[.iface 58 (.pointer (some ⟨g, 0, none⟩)), .pointer (some ⟨b, 0, none⟩)] w fun e w' => e = .returned (.tuple #[]) ∧ OutS F w' g (bad || !fitsU code 2) over (xs ++ litBytes code 2) ∧ Upd (fun k => F k ∨ k = b) w w' := by
  have H := Aside.mk h
  have HO := Aside.mk ho
  have HF := Aside.mk hb
  have hlt := blk_lt h
  have c0 : w.cell? ⟨b, 0, none⟩ = some (.int .i64 107) := (blk_cell h 0).trans rfl
  have c1 : w.cell? ⟨b, 26, none⟩ = some (.int .i64 code) := (blk_cell h 26).trans rfl
  have HN : Aside ((w.alloc (.cells #[.int .i64 code] 3)).cell? ⟨w.heap.size, 0, none⟩ = some (.int .i64 code)) := ⟨by simp⟩
  clear h ho hb
  go_enter Tryd.func28, Tryd.ntmps28
  go_wp2_with (go_at_call 27; refine (Onum2_any code ⟨w.heap.size, 0, none⟩ (HO.out.away _) HN.out hl).mono ?_; rintro e w1 ⟨rfl, hw1, hu1⟩; have HW1 := Aside.mk hw1; have HU1 := Aside.mk hu1; have hb1 := hu1.block_eq (k := b) (fun hk => HF.out hk.1) (blk_alloc H.out); have HB1 := Aside.mk hb1; have k0 := hu1.cell (p := ⟨w.heap.size, 0, none⟩) (fun hk => hk.2 rfl) HN.out; have k1 : w1.cell? ⟨b, 26, none⟩ = some (.int .i64 code) := (blk_cell hb1 26).trans rfl; have k2 := blk_frozen hb1 26; clear hw1 hu1 hb1)
  go_end0
  have h1 : Upd (fun k => F k ∨ k = b) w w1 := (((Upd.refl (fun k => F k ∧ k ≠ w.heap.size) w).alloc _).trans HU1.out).mono (fun k hk => .inl hk.1)
  refine ⟨rfl, ?_, h1.setCell (p := ⟨b, 26, none⟩) (.inr rfl) _⟩
  have h2 := (HW1.out.wide (F1 := F) (fun k hk => hk.1))
  exact h2.keep (F1 := fun k => k = b) ((Upd.refl (fun k => k = b) _).setCell (p := ⟨b, 26, none⟩) rfl _) (fun k hk _ e => HF.out (e ▸ hk))

def isSingle (k : Int) : Bool := k == 103 || k == 105 || k == 113 || k == 115
set_option maxRecDepth 100000 in
theorem single_no (k : Int) (w : World) (h : isSingle k = false) : Calls Tryd.prog 50 #[.int .i64 k] w fun e w' => e = .returned (.bool false) ∧ w = w' := by
  simp only [isSingle, Bool.or_eq_false_iff] at h
  obtain ⟨⟨⟨h1, h2⟩, h3⟩, h4⟩ := h
  go_enter Tryd.func50, Tryd.ntmps50
  go_wp2
  go_ret
  exact ⟨rfl, rfl⟩
theorem no_text : ((⟨#[]⟩ : ByteArray) ++ (⟨#[]⟩ : ByteArray) ++ (⟨#[]⟩ : ByteArray) ++ (⟨#[]⟩ : ByteArray) ++ (⟨#[]⟩ : ByteArray)).toList = [] := by kernel_rfl
set_option maxRecDepth 100000 in
set_option maxHeartbeats 4000000 in
theorem shaped_clunk (w : World) (tag x : Int) :
    Calls Tryd.prog 25 #[.agg (msgCells 120 tag x 0 0 0 0 0 0 ⟨#[]⟩ ⟨#[]⟩ ⟨#[]⟩ ⟨#[]⟩ (.slice none 0 0) (.slice none 0 0) ⟨#[]⟩ ⟨0, 0, 0, 0, 0, 0, ⟨#[]⟩, ⟨#[]⟩, ⟨#[]⟩, ⟨#[]⟩⟩ 0).toArray] w fun e w' => e = .returned (.bool true) ∧ Below w.heap.size w w' := by
  have HN : Aside ((w.alloc (.cells (msgCells 120 tag x 0 0 0 0 0 0 ⟨#[]⟩ ⟨#[]⟩ ⟨#[]⟩ ⟨#[]⟩ (.slice none 0 0) (.slice none 0 0) ⟨#[]⟩ ⟨0, 0, 0, 0, 0, 0, ⟨#[]⟩, ⟨#[]⟩, ⟨#[]⟩, ⟨#[]⟩⟩ 0).toArray 46)).heap[w.heap.size]? = some (.cells (msgCells 120 tag x 0 0 0 0 0 0 ⟨#[]⟩ ⟨#[]⟩ ⟨#[]⟩ ⟨#[]⟩ (.slice none 0 0) (.slice none 0 0) ⟨#[]⟩ ⟨0, 0, 0, 0, 0, 0, ⟨#[]⟩, ⟨#[]⟩, ⟨#[]⟩, ⟨#[]⟩⟩ 0).toArray 46 (0, 0))) := ⟨by simpa using heap_alloc_new w _⟩
  have HF := Aside.mk (fields_blank_clunk _ _ _ _ _ _ _ _ _ _ _ _ _ _ _ _ _ HN.out)
  have hE := no_text
  unfold msgCells at HF ⊢
  go_enter Tryd.func25, Tryd.ntmps25
  go_wp2_with (first | (go_at_call 50; refine (single_no 120 _ rfl).mono ?_; rintro e w1 ⟨rfl, rfl⟩) | (go_at_call 28; refine HF.out.mono ?_; rintro e w1 ⟨rfl, hw1, hu1⟩; have k0_0 : w1.cell? ⟨w.heap.size, 0, none⟩ = some (.int .i64 120) := (blk_cell hw1 0).trans rfl; have k0_1 : w1.cell? ⟨w.heap.size, 1, none⟩ = some (.int .i64 tag) := (blk_cell hw1 1).trans rfl; have k0_2 : w1.cell? ⟨w.heap.size, 2, none⟩ = some (.int .i64 0) := (blk_cell hw1 2).trans rfl; have k0_3 : w1.cell? ⟨w.heap.size, 3, none⟩ = some (.int .i64 0) := (blk_cell hw1 3).trans rfl; have k0_4 : w1.cell? ⟨w.heap.size, 4, none⟩ = some (.int .i64 0) := (blk_cell hw1 4).trans rfl; have k0_5 : w1.cell? ⟨w.heap.size, 5, none⟩ = some (.int .i64 0) := (blk_cell hw1 5).trans rfl; have k0_6 : w1.cell? ⟨w.heap.size, 6, none⟩ = some (.int .i64 0) := (blk_cell hw1 6).trans rfl; have k0_7 : w1.cell? ⟨w.heap.size, 7, none⟩ = some (.int .i64 0) := (blk_cell hw1 7).trans rfl; have k0_8 : w1.cell? ⟨w.heap.size, 8, none⟩ = some (.int .i64 0) := (blk_cell hw1 8).trans rfl; have k0_9 : w1.cell? ⟨w.heap.size, 9, none⟩ = some (.string ⟨#[]⟩) := (blk_cell hw1 9).trans rfl; have k0_10 : w1.cell? ⟨w.heap.size, 10, none⟩ = some (.string ⟨#[]⟩) := (blk_cell hw1 10).trans rfl; have k0_11 : w1.cell? ⟨w.heap.size, 11, none⟩ = some (.string ⟨#[]⟩) := (blk_cell hw1 11).trans rfl; have k0_12 : w1.cell? ⟨w.heap.size, 12, none⟩ = some (.string ⟨#[]⟩) := (blk_cell hw1 12).trans rfl; have k0_13 : w1.cell? ⟨w.heap.size, 13, none⟩ = some (.slice none 0 0) := (blk_cell hw1 13).trans rfl; have k0_14 : w1.cell? ⟨w.heap.size, 14, none⟩ = some (.slice none 0 0) := (blk_cell hw1 14).trans rfl; have k0_15 : w1.cell? ⟨w.heap.size, 15, none⟩ = some (.string ⟨#[]⟩) := (blk_cell hw1 15).trans rfl; have k0_16 : w1.cell? ⟨w.heap.size, 16, none⟩ = some (.int .i64 0) := (blk_cell hw1 16).trans rfl; have k0_17 : w1.cell? ⟨w.heap.size, 17, none⟩ = some (.int .i64 0) := (blk_cell hw1 17).trans rfl; have k0_18 : w1.cell? ⟨w.heap.size, 18, none⟩ = some (.int .i64 0) := (blk_cell hw1 18).trans rfl; have k0_19 : w1.cell? ⟨w.heap.size, 19, none⟩ = some (.int .i64 0) := (blk_cell hw1 19).trans rfl; have k0_20 : w1.cell? ⟨w.heap.size, 20, none⟩ = some (.int .i64 0) := (blk_cell hw1 20).trans rfl; have k0_21 : w1.cell? ⟨w.heap.size, 21, none⟩ = some (.int .i64 0) := (blk_cell hw1 21).trans rfl; have k0_22 : w1.cell? ⟨w.heap.size, 22, none⟩ = some (.string ⟨#[]⟩) := (blk_cell hw1 22).trans rfl; have k0_23 : w1.cell? ⟨w.heap.size, 23, none⟩ = some (.string ⟨#[]⟩) := (blk_cell hw1 23).trans rfl; have k0_24 : w1.cell? ⟨w.heap.size, 24, none⟩ = some (.string ⟨#[]⟩) := (blk_cell hw1 24).trans rfl; have k0_25 : w1.cell? ⟨w.heap.size, 25, none⟩ = some (.string ⟨#[]⟩) := (blk_cell hw1 25).trans rfl; have k0_26 : w1.cell? ⟨w.heap.size, 26, none⟩ = some (.int .i64 0) := (blk_cell hw1 26).trans rfl; have HU1 := Aside.mk hu1; clear hw1 hu1))
  go_ret
  refine ⟨rfl, ?_⟩
  have h1 : Upd (fun k => w.heap.size ≤ k) w w1 := ((Upd.refl _ w).alloc _).trans (HU1.out.mono (fun k hk => by omega))
  exact h1.below (Nat.le_refl _)
set_option maxRecDepth 100000 in
set_option maxHeartbeats 4000000 in
theorem shaped_error (w : World) (tag x : Int) :
    Calls Tryd.prog 25 #[.agg (msgCells 107 tag 0 0 0 0 0 0 0 ⟨#[]⟩ ⟨#[]⟩ ⟨#[]⟩ ⟨#[]⟩ (.slice none 0 0) (.slice none 0 0) ⟨#[]⟩ ⟨0, 0, 0, 0, 0, 0, ⟨#[]⟩, ⟨#[]⟩, ⟨#[]⟩, ⟨#[]⟩⟩ x).toArray] w fun e w' => e = .returned (.bool true) ∧ Below w.heap.size w w' := by
  have HN : Aside ((w.alloc (.cells (msgCells 107 tag 0 0 0 0 0 0 0 ⟨#[]⟩ ⟨#[]⟩ ⟨#[]⟩ ⟨#[]⟩ (.slice none 0 0) (.slice none 0 0) ⟨#[]⟩ ⟨0, 0, 0, 0, 0, 0, ⟨#[]⟩, ⟨#[]⟩, ⟨#[]⟩, ⟨#[]⟩⟩ x).toArray 46)).heap[w.heap.size]? = some (.cells (msgCells 107 tag 0 0 0 0 0 0 0 ⟨#[]⟩ ⟨#[]⟩ ⟨#[]⟩ ⟨#[]⟩ (.slice none 0 0) (.slice none 0 0) ⟨#[]⟩ ⟨0, 0, 0, 0, 0, 0, ⟨#[]⟩, ⟨#[]⟩, ⟨#[]⟩, ⟨#[]⟩⟩ x).toArray 46 (0, 0))) := ⟨by simpa using heap_alloc_new w _⟩
  have HF := Aside.mk (fields_blank_error _ _ _ _ _ _ _ _ _ _ _ _ _ _ _ _ _ HN.out)
  have hE := no_text
  unfold msgCells at HF ⊢
  go_enter Tryd.func25, Tryd.ntmps25
  go_wp2_with (first | (go_at_call 50; refine (single_no 107 _ rfl).mono ?_; rintro e w1 ⟨rfl, rfl⟩) | (go_at_call 28; refine HF.out.mono ?_; rintro e w1 ⟨rfl, hw1, hu1⟩; have k0_0 : w1.cell? ⟨w.heap.size, 0, none⟩ = some (.int .i64 107) := (blk_cell hw1 0).trans rfl; have k0_1 : w1.cell? ⟨w.heap.size, 1, none⟩ = some (.int .i64 tag) := (blk_cell hw1 1).trans rfl; have k0_2 : w1.cell? ⟨w.heap.size, 2, none⟩ = some (.int .i64 0) := (blk_cell hw1 2).trans rfl; have k0_3 : w1.cell? ⟨w.heap.size, 3, none⟩ = some (.int .i64 0) := (blk_cell hw1 3).trans rfl; have k0_4 : w1.cell? ⟨w.heap.size, 4, none⟩ = some (.int .i64 0) := (blk_cell hw1 4).trans rfl; have k0_5 : w1.cell? ⟨w.heap.size, 5, none⟩ = some (.int .i64 0) := (blk_cell hw1 5).trans rfl; have k0_6 : w1.cell? ⟨w.heap.size, 6, none⟩ = some (.int .i64 0) := (blk_cell hw1 6).trans rfl; have k0_7 : w1.cell? ⟨w.heap.size, 7, none⟩ = some (.int .i64 0) := (blk_cell hw1 7).trans rfl; have k0_8 : w1.cell? ⟨w.heap.size, 8, none⟩ = some (.int .i64 0) := (blk_cell hw1 8).trans rfl; have k0_9 : w1.cell? ⟨w.heap.size, 9, none⟩ = some (.string ⟨#[]⟩) := (blk_cell hw1 9).trans rfl; have k0_10 : w1.cell? ⟨w.heap.size, 10, none⟩ = some (.string ⟨#[]⟩) := (blk_cell hw1 10).trans rfl; have k0_11 : w1.cell? ⟨w.heap.size, 11, none⟩ = some (.string ⟨#[]⟩) := (blk_cell hw1 11).trans rfl; have k0_12 : w1.cell? ⟨w.heap.size, 12, none⟩ = some (.string ⟨#[]⟩) := (blk_cell hw1 12).trans rfl; have k0_13 : w1.cell? ⟨w.heap.size, 13, none⟩ = some (.slice none 0 0) := (blk_cell hw1 13).trans rfl; have k0_14 : w1.cell? ⟨w.heap.size, 14, none⟩ = some (.slice none 0 0) := (blk_cell hw1 14).trans rfl; have k0_15 : w1.cell? ⟨w.heap.size, 15, none⟩ = some (.string ⟨#[]⟩) := (blk_cell hw1 15).trans rfl; have k0_16 : w1.cell? ⟨w.heap.size, 16, none⟩ = some (.int .i64 0) := (blk_cell hw1 16).trans rfl; have k0_17 : w1.cell? ⟨w.heap.size, 17, none⟩ = some (.int .i64 0) := (blk_cell hw1 17).trans rfl; have k0_18 : w1.cell? ⟨w.heap.size, 18, none⟩ = some (.int .i64 0) := (blk_cell hw1 18).trans rfl; have k0_19 : w1.cell? ⟨w.heap.size, 19, none⟩ = some (.int .i64 0) := (blk_cell hw1 19).trans rfl; have k0_20 : w1.cell? ⟨w.heap.size, 20, none⟩ = some (.int .i64 0) := (blk_cell hw1 20).trans rfl; have k0_21 : w1.cell? ⟨w.heap.size, 21, none⟩ = some (.int .i64 0) := (blk_cell hw1 21).trans rfl; have k0_22 : w1.cell? ⟨w.heap.size, 22, none⟩ = some (.string ⟨#[]⟩) := (blk_cell hw1 22).trans rfl; have k0_23 : w1.cell? ⟨w.heap.size, 23, none⟩ = some (.string ⟨#[]⟩) := (blk_cell hw1 23).trans rfl; have k0_24 : w1.cell? ⟨w.heap.size, 24, none⟩ = some (.string ⟨#[]⟩) := (blk_cell hw1 24).trans rfl; have k0_25 : w1.cell? ⟨w.heap.size, 25, none⟩ = some (.string ⟨#[]⟩) := (blk_cell hw1 25).trans rfl; have k0_26 : w1.cell? ⟨w.heap.size, 26, none⟩ = some (.int .i64 0) := (blk_cell hw1 26).trans rfl; have HU1 := Aside.mk hu1; clear hw1 hu1))
  go_ret
  refine ⟨rfl, ?_⟩
  have h1 : Upd (fun k => w.heap.size ≤ k) w w1 := ((Upd.refl _ w).alloc _).trans (HU1.out.mono (fun k hk => by omega))
  exact h1.below (Nat.le_refl _)
end Go.Proofs.YtflofpnagfoeeaaDoor
