/- qid, body, EncodeDir with the visitor that writes. -/
import Derived.Test.YtflofpnagfoeeaaDoorStOut
namespace Go.Proofs.YtflofpnagfoeeaaDoor
open Go.RowKit

theorem nil_num_out (a : Addr) (w : World) : (nilAhead 247 58 (.pointer (some a)) "acheron/styx.num").run Tryd.prog w = .ok (some false) w := by kernel_rfl
theorem met_num_out (a : Addr) (w : World) : (method 247 58 (.pointer (some a)) "acheron/styx.num").run Tryd.prog w = .ok (27, .pointer (some a)) w := by kernel_rfl
theorem nil_long_out (a : Addr) (w : World) : (nilAhead 247 58 (.pointer (some a)) "acheron/styx.long").run Tryd.prog w = .ok (some false) w := by kernel_rfl
theorem met_long_out (a : Addr) (w : World) : (method 247 58 (.pointer (some a)) "acheron/styx.long").run Tryd.prog w = .ok (86, .pointer (some a)) w := by kernel_rfl
theorem nil_optional_out (a : Addr) (w : World) : (nilAhead 247 58 (.pointer (some a)) "acheron/styx.optional").run Tryd.prog w = .ok (some false) w := by kernel_rfl
theorem met_optional_out (a : Addr) (w : World) : (method 247 58 (.pointer (some a)) "acheron/styx.optional").run Tryd.prog w = .ok (89, .pointer (some a)) w := by kernel_rfl
theorem nil_mode_out (a : Addr) (w : World) : (nilAhead 247 58 (.pointer (some a)) "acheron/styx.mode").run Tryd.prog w = .ok (some false) w := by kernel_rfl
theorem met_mode_out (a : Addr) (w : World) : (method 247 58 (.pointer (some a)) "acheron/styx.mode").run Tryd.prog w = .ok (87, .pointer (some a)) w := by kernel_rfl
theorem nil_text_out (a : Addr) (w : World) : (nilAhead 247 58 (.pointer (some a)) "acheron/styx.text").run Tryd.prog w = .ok (some false) w := by kernel_rfl
theorem met_text_out (a : Addr) (w : World) : (method 247 58 (.pointer (some a)) "acheron/styx.text").run Tryd.prog w = .ok (91, .pointer (some a)) w := by kernel_rfl
theorem nil_data_out (a : Addr) (w : World) : (nilAhead 247 58 (.pointer (some a)) "acheron/styx.data").run Tryd.prog w = .ok (some false) w := by kernel_rfl
theorem met_data_out (a : Addr) (w : World) : (method 247 58 (.pointer (some a)) "acheron/styx.data").run Tryd.prog w = .ok (85, .pointer (some a)) w := by kernel_rfl
theorem nil_names_out (a : Addr) (w : World) : (nilAhead 247 58 (.pointer (some a)) "acheron/styx.names").run Tryd.prog w = .ok (some false) w := by kernel_rfl
theorem met_names_out (a : Addr) (w : World) : (method 247 58 (.pointer (some a)) "acheron/styx.names").run Tryd.prog w = .ok (88, .pointer (some a)) w := by kernel_rfl
theorem nil_qids_out (a : Addr) (w : World) : (nilAhead 247 58 (.pointer (some a)) "acheron/styx.qids").run Tryd.prog w = .ok (some false) w := by kernel_rfl
theorem met_qids_out (a : Addr) (w : World) : (method 247 58 (.pointer (some a)) "acheron/styx.qids").run Tryd.prog w = .ok (90, .pointer (some a)) w := by kernel_rfl
theorem nil_dir_out (a : Addr) (w : World) : (nilAhead 247 58 (.pointer (some a)) "acheron/styx.dir").run Tryd.prog w = .ok (some false) w := by kernel_rfl
theorem met_dir_out (a : Addr) (w : World) : (method 247 58 (.pointer (some a)) "acheron/styx.dir").run Tryd.prog w = .ok (41, .pointer (some a)) w := by kernel_rfl
attribute [local go_sem] nil_num_out met_num_out nil_long_out met_long_out nil_optional_out met_optional_out nil_mode_out met_mode_out nil_text_out met_text_out nil_data_out met_data_out nil_names_out met_names_out nil_qids_out met_qids_out nil_dir_out met_dir_out

def qidBytes (k v p : Int) : List Int := litBytes k 1 ++ litBytes v 4 ++ leb p 8
def qidBad (k v p : Int) : Bool := !fitsU k 1 || !fitsU v 4 || decide (p < 0)
theorem qidBytes_length (k v p : Int) : (qidBytes k v p).length ≤ 13 := by
  have := litBytes_length k 1
  have := litBytes_length v 4
  simp only [qidBytes, List.length_append, leb_length]
  omega
set_option maxRecDepth 100000 in
set_option maxHeartbeats 1000000 in
theorem qid_out {F : Nat → Prop} {w : World} {g : Nat} {bad over : Bool} {xs : List Int} (b off : Nat) (k v p : Int) (h : OutS F w g bad over xs) (hl : xs.length + 100 ≤ 1000000000)
    (h0 : w.cell? ⟨b, off, none⟩ = some (.int .i64 k)) (h1 : w.cell? ⟨b, off + 1, none⟩ = some (.int .i64 v)) (h2 : w.cell? ⟨b, off + 2, none⟩ = some (.int .i64 p)) (hb : ¬ F b) (hp0 : -9223372036854775808 ≤ p) (hp1 : p < 9223372036854775808) :
    Calls Tryd.prog 60 #[.iface 58 (.pointer (some ⟨g, 0, none⟩)), .pointer (some ⟨b, off, none⟩)] w
      (OutDone F w g (bad || qidBad k v p) over (xs ++ qidBytes k v p)) := by
  have H := Aside.mk h
  have H1 := Aside.mk h1
  have H2 := Aside.mk h2
  have HB := Aside.mk hb
  have P0 := Aside.mk hp0
  have P1 := Aside.mk hp1
  have L1 := Aside.mk (litBytes_length k 1)
  have L2 := Aside.mk (litBytes_length v 4)
  have EB : Aside ((bad || qidBad k v p) = (bad || !fitsU k 1 || !fitsU v 4 || decide (p < 0))) := ⟨by simp [qidBad, Bool.or_assoc]⟩
  have EX : Aside (xs ++ qidBytes k v p = xs ++ litBytes k 1 ++ litBytes v 4 ++ leb p 8) := ⟨by simp [qidBytes]⟩
  rw [EB.out, EX.out]
  clear h h1 h2 hb hp0 hp1
  go_enter Tryd.func60, Tryd.ntmps60
  go_wp2
  go_region_with (refine (Onum1_any k ⟨b, off, none⟩ H.out.drew h0 (by omega)).mono ?_; rintro e w1 ⟨rfl, hw1, hu1⟩; have HW1 := Aside.mk hw1; have HU1 := Aside.mk hu1; clear hw1 hu1)
  have h1 := HU1.out.cell (p := ⟨b, off + 1, none⟩) HB.out H1.out
  have H2' := Aside.mk (HU1.out.cell (p := ⟨b, off + 2, none⟩) HB.out H2.out)
  clear h0
  go_wp2
  go_region_with (refine (Onum4_any v ⟨b, off + 1, none⟩ HW1.out.drew h1 (by have := L1.out; simp only [List.length_append]; omega)).mono ?_; rintro e w2 ⟨rfl, hw2, hu2⟩; have HW2 := Aside.mk hw2; have HU2 := Aside.mk hu2; clear hw2 hu2)
  have h2 := HU2.out.cell (p := ⟨b, off + 2, none⟩) HB.out H2'.out
  clear h1
  go_wp2
  go_region_with (refine (Olong_any p ⟨b, off + 2, none⟩ HW2.out.drew h2 (by have := L1.out; have := L2.out; simp only [List.length_append]; omega) P0.out P1.out).mono ?_; rintro e w3 ⟨rfl, hw3, hu3⟩; have HW3 := Aside.mk hw3; have HU3 := Aside.mk hu3; clear hw3 hu3)
  go_end0
  exact ⟨rfl, HW3.out, ((Upd.refl F w).drew.trans HU1.out).trans ((Upd.refl F w1).drew.trans HU2.out |>.trans ((Upd.refl F w2).drew.trans HU3.out))⟩

/-- A Dir. -/
structure DirV where
  kind : Int
  vers : Int
  path : Int
  mode : Int
  time : Int
  length : Int
  name : ByteArray
  owner : ByteArray
  group : ByteArray
  last : ByteArray
deriving DecidableEq
/-- Its cells. -/
def DirV.cells (d : DirV) : List Value := [.int .i64 d.kind, .int .i64 d.vers, .int .i64 d.path, .int .i64 d.mode, .int .i64 d.time, .int .i64 d.length, .string d.name, .string d.owner, .string d.group, .string d.last]
/-- Its numbers are those of their kinds, its strings are no longer than memory bears. -/
structure DirV.Wf (d : DirV) : Prop where
  p0 : -9223372036854775808 ≤ d.path
  p1 : d.path < 9223372036854775808
  t0 : -9223372036854775808 ≤ d.time
  t1 : d.time < 9223372036854775808
  l0 : -9223372036854775808 ≤ d.length
  l1 : d.length < 9223372036854775808
  s1 : d.name.size ≤ 140737488355328
  s2 : d.owner.size ≤ 140737488355328
  s3 : d.group.size ≤ 140737488355328
  s4 : d.last.size ≤ 140737488355328
def DirV.ok (d : DirV) : Bool := decide (-9223372036854775808 ≤ d.path ∧ d.path < 9223372036854775808 ∧ -9223372036854775808 ≤ d.time ∧ d.time < 9223372036854775808 ∧ -9223372036854775808 ≤ d.length ∧ d.length < 9223372036854775808 ∧
  d.name.size ≤ 140737488355328 ∧ d.owner.size ≤ 140737488355328 ∧ d.group.size ≤ 140737488355328 ∧ d.last.size ≤ 140737488355328)
theorem DirV.ok_wf {d : DirV} (h : d.ok = true) : d.Wf := by
  simp only [DirV.ok, decide_eq_true_iff] at h
  obtain ⟨h1, h2, h3, h4, h5, h6, h7, h8, h9, h10⟩ := h
  exact ⟨h1, h2, h3, h4, h5, h6, h7, h8, h9, h10⟩
theorem DirV.wf_ok {d : DirV} (h : d.Wf) : d.ok = true := by
  simp only [DirV.ok, decide_eq_true_iff]
  exact ⟨h.p0, h.p1, h.t0, h.t1, h.l0, h.l1, h.s1, h.s2, h.s3, h.s4⟩
/-- A Dir lies at the place. -/
def DirAt (w : World) (b off : Nat) (d : DirV) : Prop := ∀ (i : Nat) (u : Value), d.cells[i]? = some u → w.cell? ⟨b, off + i, none⟩ = some u
theorem DirAt.keep {w w1 : World} {b off : Nat} {d : DirV} (h : DirAt w b off d) {F : Nat → Prop} (hu : Upd F w w1) (hb : ¬ F b) : DirAt w1 b off d := fun i u hi => hu.cell (p := ⟨b, off + i, none⟩) hb (h i u hi)

def DirV.strs (d : DirV) : List ByteArray := [d.name, d.owner, d.group, d.last]
def textsBytes (l : List ByteArray) : List Int := l.flatMap fun s => sizedBytes s 2
def textsOver (l : List ByteArray) : Bool := l.any fun s => !sizedOk s 2
theorem textsBytes_length (l : List ByteArray) : (textsBytes l).length ≤ l.length * 8194 := by
  induction l with
  | nil => simp [textsBytes]
  | cons s r ih =>
    have := sizedBytes_length s 2
    simp only [textsBytes, List.flatMap_cons, List.length_append, List.length_cons] at ih ⊢
    omega
theorem texts_snoc (l : List ByteArray) (s : ByteArray) : textsBytes (l ++ [s]) = textsBytes l ++ sizedBytes s 2 ∧ textsOver (l ++ [s]) = (textsOver l || !sizedOk s 2) := by
  simp [textsBytes, textsOver]
def bodyBytes (d : DirV) : List Int := qidBytes d.kind d.vers d.path ++ litBytes (modeVal d.mode) 4 ++ leb d.time 8 ++ leb d.length 8 ++ textsBytes d.strs
def bodyBad (d : DirV) : Bool := qidBad d.kind d.vers d.path || modeBad d.mode || decide (d.time < -1) || decide (d.length < -1)
def bodyOver (d : DirV) : Bool := textsOver d.strs

set_option maxRecDepth 100000 in
set_option maxHeartbeats 4000000 in
/-- A round of body's loop. -/
theorem body_text {F : Nat → Prop} {w : World} {g : Nat} {bad over : Bool} {xs : List Int} (b off : Nat) (d : DirV) (k : Nat) (s : ByteArray) (hk : d.strs[k]? = some s)
    (h : OutS F w g bad (over || textsOver (d.strs.take k)) (xs ++ textsBytes (d.strs.take k))) (hl : xs.length + 40000 ≤ 1000000000) (hd : DirAt w b off d) (hw : d.Wf) :
    Calls Tryd.prog 91 #[.pointer (some ⟨g, 0, none⟩), .pointer (some ⟨b, off + (6 + k), none⟩)] w (OutDone F w g bad (over || textsOver (d.strs.take (k + 1))) (xs ++ textsBytes (d.strs.take (k + 1)))) := by
  have hk4 : k < 4 := by have := (List.getElem?_eq_some_iff.1 hk).1; simpa [DirV.strs] using this
  have hc : d.cells[6 + k]? = some (.string s) := by
    obtain rfl | rfl | rfl | rfl : k = 0 ∨ k = 1 ∨ k = 2 ∨ k = 3 := by omega
    all_goals
      simp [DirV.strs] at hk
      subst hk
      rfl
  have hs : s.size ≤ 9223372036854775807 := by
    have h1 := hw.s1; have h2 := hw.s2; have h3 := hw.s3; have h4 := hw.s4
    obtain rfl | rfl | rfl | rfl : k = 0 ∨ k = 1 ∨ k = 2 ∨ k = 3 := by omega
    all_goals
      simp [DirV.strs] at hk
      subst hk
      omega
  have hlen := textsBytes_length (d.strs.take k)
  have ht : (d.strs.take k).length ≤ 4 := by simp; omega
  have e1 : d.strs.take (k + 1) = d.strs.take k ++ [s] := by rw [List.take_add_one, hk]; rfl
  have hh := Otext_any s ⟨b, off + (6 + k), none⟩ h (hd _ _ hc) (by rw [List.length_append]; omega) hs
  rw [e1, (texts_snoc _ s).1, (texts_snoc _ s).2, ← Bool.or_assoc, ← List.append_assoc]
  exact hh
set_option maxRecDepth 100000 in
set_option maxHeartbeats 4000000 in
theorem body_out {F : Nat → Prop} {w : World} {g : Nat} {bad over : Bool} {xs : List Int} (b off : Nat) (d : DirV) (h : OutS F w g bad over xs) (hl : xs.length + 100000 ≤ 1000000000) (hd : DirAt w b off d) (hw : d.Wf) (hb : ¬ F b) :
    Calls Tryd.prog 48 #[.iface 58 (.pointer (some ⟨g, 0, none⟩)), .pointer (some ⟨b, off, none⟩)] w
      (OutDone F w g (bad || bodyBad d) (over || bodyOver d) (xs ++ bodyBytes d)) := by
  have H := Aside.mk h
  have HD := Aside.mk hd
  have HW := Aside.mk hw
  have HB := Aside.mk hb
  have HL := Aside.mk hl
  clear h hd hw hb hl
  go_enter Tryd.func48, Tryd.ntmps48
  go_wp2_with (go_at_call 60; refine (qid_out b off d.kind d.vers d.path H.out (by have := HL.out; omega) (HD.out 0 _ rfl) (HD.out 1 _ rfl) (HD.out 2 _ rfl) HB.out HW.out.p0 HW.out.p1).mono ?_; rintro e w1 ⟨rfl, hw1, hu1⟩; have HW1 := Aside.mk hw1; have HU1 := Aside.mk hu1; clear hw1 hu1)
  have HD1 := Aside.mk (HD.out.keep HU1.out HB.out)
  go_region_with (refine (Omode_any d.mode ⟨b, off + 3, none⟩ HW1.out.drew (HD1.out 3 _ rfl) (by have := HL.out; have := qidBytes_length d.kind d.vers d.path; simp only [List.length_append]; omega)).mono ?_; rintro e w2 ⟨rfl, hw2, hu2⟩; have HW2 := Aside.mk hw2; have HU2 := Aside.mk hu2; clear hw2 hu2)
  go_wp2
  have HD2 := Aside.mk (HD1.out.keep ((Upd.refl F w1).drew.trans HU2.out) HB.out)
  have LB := Aside.mk (show (xs ++ qidBytes d.kind d.vers d.path ++ litBytes (modeVal d.mode) 4).length ≤ xs.length + 17 by have := qidBytes_length d.kind d.vers d.path; have := litBytes_length (modeVal d.mode) 4; simp only [List.length_append]; omega)
  go_region_with (refine (Ooptional_any d.time ⟨b, off + 4, none⟩ HW2.out.drew (HD2.out 4 _ rfl) (by have := HL.out; have := LB.out; omega) HW.out.t0 HW.out.t1).mono ?_; rintro e w3 ⟨rfl, hw3, hu3⟩; have HW3 := Aside.mk hw3; have HU3 := Aside.mk hu3; clear hw3 hu3)
  go_wp2
  have HD3 := Aside.mk (HD2.out.keep ((Upd.refl F w2).drew.trans HU3.out) HB.out)
  go_region_with (refine (Ooptional_any d.length ⟨b, off + 5, none⟩ HW3.out.drew (HD3.out 5 _ rfl) (by have := HL.out; have := LB.out; rw [List.length_append, leb_length]; omega) HW.out.l0 HW.out.l1).mono ?_; rintro e w4 ⟨rfl, hw4, hu4⟩; have HW4 := Aside.mk hw4; have HU4 := Aside.mk hu4; clear hw4 hu4)
  have HD4 := Aside.mk (HD3.out.keep ((Upd.refl F w3).drew.trans HU4.out) HB.out)
  go_wp2
  go_region
  go_wp2
  have EB0 := Aside.mk (show (bad || qidBad d.kind d.vers d.path || modeBad d.mode || decide (d.time < -1) || decide (d.length < -1)) = (bad || bodyBad d) by simp only [bodyBad, Bool.or_assoc])
  obtain ⟨xs4, hxs4⟩ : ∃ l, l = xs ++ qidBytes d.kind d.vers d.path ++ litBytes (modeVal d.mode) 4 ++ leb d.time 8 ++ leb d.length 8 := ⟨_, rfl⟩
  have L4 := Aside.mk (show xs4.length ≤ xs.length + 33 by rw [hxs4]; have := LB.out; simp only [List.length_append, leb_length] at this ⊢; omega)
  have EX := Aside.mk (show xs4 ++ textsBytes d.strs = xs ++ bodyBytes d by rw [hxs4]; simp only [bodyBytes, List.append_assoc])
  have HW4' := Aside.mk (show OutS F w4 g (bad || bodyBad d) over xs4 by rw [← EB0.out, hxs4]; exact HW4.out)
  have XE := Aside.mk hxs4
  have U4 := Aside.mk (HU1.out.trans ((Upd.refl F w1).drew.trans HU2.out |>.trans ((Upd.refl F w2).drew.trans HU3.out |>.trans ((Upd.refl F w3).drew.trans HU4.out))))
  clear hxs4 EB0 HW4 HW3 HW2 HW1 HU1 HU2 HU3 HU4 HD1 HD2 HD3
  obtain ⟨w5, hw5⟩ : ∃ w5, w5 = (w4.alloc (.cells #[.pointer (some ⟨b, off + 6, none⟩), .pointer (some ⟨b, off + 7, none⟩), .pointer (some ⟨b, off + 8, none⟩), .pointer (some ⟨b, off + 9, none⟩)] 97)).drew := ⟨_, rfl⟩
  have HA := Aside.mk (show OutS (fun k => F k ∧ k ≠ w4.heap.size) w5 g (bad || bodyBad d) over xs4 by rw [hw5]; exact (HW4'.out.away _).drew)
  have HU5 := Aside.mk (show Upd F w4 w5 by rw [hw5]; exact ((Upd.refl F w4).alloc _).drew)
  have HD5 := Aside.mk (HD4.out.keep HU5.out HB.out)
  have S0 := Aside.mk (show w5.cell? ⟨w4.heap.size, 0, none⟩ = some (.pointer (some ⟨b, off + 6, none⟩)) ∧ w5.cell? ⟨w4.heap.size, 1, none⟩ = some (.pointer (some ⟨b, off + 7, none⟩)) ∧ w5.cell? ⟨w4.heap.size, 2, none⟩ = some (.pointer (some ⟨b, off + 8, none⟩)) ∧ w5.cell? ⟨w4.heap.size, 3, none⟩ = some (.pointer (some ⟨b, off + 9, none⟩)) by rw [hw5]; simp)
  rw [← hw5]
  clear hw5 HD4 HW4'
  go_loopw [5, 49] (fun _ i wr => ∃ k : Nat, k ≤ 4 ∧ i = .int .i64 k ∧ Aside (OutS (fun k => F k ∧ k ≠ w4.heap.size) wr g (bad || bodyBad d) (over || textsOver (d.strs.take k)) (xs4 ++ textsBytes (d.strs.take k))) ∧ Aside (Upd (fun k => F k ∧ k ≠ w4.heap.size) w5 wr)) (fun _ i _ => 4 - (intOf i).toNat)
  case atStart => exact ⟨0, by omega, rfl, ⟨by simpa [textsOver, textsBytes] using HA.out⟩, ⟨Upd.refl _ _⟩⟩
  case round =>
    obtain ⟨k, hk, rfl, HO, HU⟩ := hrel
    have hb' : ¬ (F b ∧ b ≠ w4.heap.size) := fun h => HB.out h.1
    have HD6 := Aside.mk (HD5.out.keep HU.out hb')
    clear hb'
    have hsb : ∀ j, w5.cell? ⟨w4.heap.size, j, none⟩ = wr.cell? ⟨w4.heap.size, j, none⟩ := fun j => by
      have hlt : w4.heap.size < w5.heap.size := by
        have hc := S0.out.1
        exact World.block_lt_of_cell? _ _ hc
      exact (World.cell?_of_block (a := ⟨w4.heap.size, j, none⟩) (HU.out.block _ hlt (fun h => h.2 rfl))).symm
    obtain ⟨s0, s1, s2, s3⟩ := S0.out
    rw [hsb] at s0 s1 s2 s3
    clear hsb
    have HT := Aside.mk (fun (k : Nat) (s : ByteArray) (hk : d.strs[k]? = some s) (h : OutS (fun k => F k ∧ k ≠ w4.heap.size) wr g (bad || bodyBad d) (over || textsOver (d.strs.take k)) (xs4 ++ textsBytes (d.strs.take k))) => body_text (w := wr) b off d k s hk h (by have := L4.out; have := HL.out; omega) HD6.out HW.out)
    by_cases h4 : k = 4
    · subst h4
      clear s0 s1 s2 s3
      go_wp2
      go_end0
      refine ⟨rfl, ?_, ?_⟩
      · have h1 := HO.out.wide (F1 := F) (fun k hk => hk.1)
        rw [show d.strs.take 4 = d.strs from rfl, EX.out] at h1
        exact h1
      · exact U4.out.trans (HU5.out.trans (HU.out.mono (fun k hk => hk.1)))
    · obtain rfl | rfl | rfl | rfl : k = 0 ∨ k = 1 ∨ k = 2 ∨ k = 3 := by omega
      · clear h4
        go_wp2_with (go_at_call 91; refine (HT.out 0 _ rfl HO.out).mono ?_; rintro e w6 ⟨rfl, hw6, hu6⟩; have HW6 := Aside.mk hw6; have HU6 := Aside.mk hu6; clear hw6 hu6)
        go_roundw
        case measure => simp [intOf]
        case rel => exact ⟨1, by decide, rfl, HW6, ⟨HU.out.trans HU6.out⟩⟩
      · clear h4
        go_wp2_with (go_at_call 91; refine (HT.out 1 _ rfl HO.out).mono ?_; rintro e w6 ⟨rfl, hw6, hu6⟩; have HW6 := Aside.mk hw6; have HU6 := Aside.mk hu6; clear hw6 hu6)
        go_roundw
        case measure => simp [intOf]
        case rel => exact ⟨2, by decide, rfl, HW6, ⟨HU.out.trans HU6.out⟩⟩
      · clear h4
        go_wp2_with (go_at_call 91; refine (HT.out 2 _ rfl HO.out).mono ?_; rintro e w6 ⟨rfl, hw6, hu6⟩; have HW6 := Aside.mk hw6; have HU6 := Aside.mk hu6; clear hw6 hu6)
        go_roundw
        case measure => simp [intOf]
        case rel => exact ⟨3, by decide, rfl, HW6, ⟨HU.out.trans HU6.out⟩⟩
      · clear h4
        go_wp2_with (go_at_call 91; refine (HT.out 3 _ rfl HO.out).mono ?_; rintro e w6 ⟨rfl, hw6, hu6⟩; have HW6 := Aside.mk hw6; have HU6 := Aside.mk hu6; clear hw6 hu6)
        go_roundw
        case measure => simp [intOf]
        case rel => exact ⟨4, by decide, rfl, HW6, ⟨HU.out.trans HU6.out⟩⟩
end Go.Proofs.YtflofpnagfoeeaaDoor
