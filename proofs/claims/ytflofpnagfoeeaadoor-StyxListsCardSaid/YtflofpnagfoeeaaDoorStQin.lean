/- qid and body with the visitor that reads; DecodeDir. -/
import Derived.Test.YtflofpnagfoeeaaDoorStIn
set_option linter.unusedSimpArgs false
set_option linter.unusedVariables false
namespace Go.Proofs.YtflofpnagfoeeaaDoor
open Go.RowKit Go.Proofs.YtflofpnagfoeeaaDoorW.PrintLast

theorem nil_num_in (a : Addr) (w : World) : (nilAhead 247 76 (.pointer (some a)) "acheron/styx.num").run Tryd.prog w = .ok (some false) w := by kernel_rfl
theorem met_num_in (a : Addr) (w : World) : (method 247 76 (.pointer (some a)) "acheron/styx.num").run Tryd.prog w = .ok (36, .pointer (some a)) w := by kernel_rfl
theorem nil_long_in (a : Addr) (w : World) : (nilAhead 247 76 (.pointer (some a)) "acheron/styx.long").run Tryd.prog w = .ok (some false) w := by kernel_rfl
theorem met_long_in (a : Addr) (w : World) : (method 247 76 (.pointer (some a)) "acheron/styx.long").run Tryd.prog w = .ok (98, .pointer (some a)) w := by kernel_rfl
theorem nil_optional_in (a : Addr) (w : World) : (nilAhead 247 76 (.pointer (some a)) "acheron/styx.optional").run Tryd.prog w = .ok (some false) w := by kernel_rfl
theorem met_optional_in (a : Addr) (w : World) : (method 247 76 (.pointer (some a)) "acheron/styx.optional").run Tryd.prog w = .ok (101, .pointer (some a)) w := by kernel_rfl
theorem nil_mode_in (a : Addr) (w : World) : (nilAhead 247 76 (.pointer (some a)) "acheron/styx.mode").run Tryd.prog w = .ok (some false) w := by kernel_rfl
theorem met_mode_in (a : Addr) (w : World) : (method 247 76 (.pointer (some a)) "acheron/styx.mode").run Tryd.prog w = .ok (99, .pointer (some a)) w := by kernel_rfl
theorem nil_text_in (a : Addr) (w : World) : (nilAhead 247 76 (.pointer (some a)) "acheron/styx.text").run Tryd.prog w = .ok (some false) w := by kernel_rfl
theorem met_text_in (a : Addr) (w : World) : (method 247 76 (.pointer (some a)) "acheron/styx.text").run Tryd.prog w = .ok (103, .pointer (some a)) w := by kernel_rfl
theorem nil_data_in (a : Addr) (w : World) : (nilAhead 247 76 (.pointer (some a)) "acheron/styx.data").run Tryd.prog w = .ok (some false) w := by kernel_rfl
theorem met_data_in (a : Addr) (w : World) : (method 247 76 (.pointer (some a)) "acheron/styx.data").run Tryd.prog w = .ok (96, .pointer (some a)) w := by kernel_rfl
theorem nil_names_in (a : Addr) (w : World) : (nilAhead 247 76 (.pointer (some a)) "acheron/styx.names").run Tryd.prog w = .ok (some false) w := by kernel_rfl
theorem met_names_in (a : Addr) (w : World) : (method 247 76 (.pointer (some a)) "acheron/styx.names").run Tryd.prog w = .ok (100, .pointer (some a)) w := by kernel_rfl
theorem nil_qids_in (a : Addr) (w : World) : (nilAhead 247 76 (.pointer (some a)) "acheron/styx.qids").run Tryd.prog w = .ok (some false) w := by kernel_rfl
theorem met_qids_in (a : Addr) (w : World) : (method 247 76 (.pointer (some a)) "acheron/styx.qids").run Tryd.prog w = .ok (102, .pointer (some a)) w := by kernel_rfl
theorem nil_dir_in (a : Addr) (w : World) : (nilAhead 247 76 (.pointer (some a)) "acheron/styx.dir").run Tryd.prog w = .ok (some false) w := by kernel_rfl
theorem met_dir_in (a : Addr) (w : World) : (method 247 76 (.pointer (some a)) "acheron/styx.dir").run Tryd.prog w = .ok (97, .pointer (some a)) w := by kernel_rfl
attribute [local go_sem] nil_num_in met_num_in nil_long_in met_long_in nil_optional_in met_optional_in nil_mode_in met_mode_in nil_text_in met_text_in nil_data_in met_data_in nil_names_in met_names_in nil_qids_in met_qids_in nil_dir_in met_dir_in
def RS.qid (q : RS) : RS := ((q.num 1).num 4).least 0
set_option maxRecDepth 100000 in
set_option maxHeartbeats 1000000 in
theorem qid_in {w : World} {g r b : Nat} {T : TypeId} (d : DirV) {q : RS} (h : InS w g r q) (hb : w.heap[b]? = some (.cells d.cells.toArray T (0, 0))) (hg : b ≠ g) (hr : b ≠ r) :
    Calls Tryd.prog 60 #[.iface 76 (.pointer (some ⟨g, 0, none⟩)), .pointer (some ⟨b, 0, none⟩)] w
      (InDone w g r b T { d with kind := q.numV 1, vers := (q.num 1).numV 4, path := ((q.num 1).num 4).leastV }.cells q.qid) := by
  have H := Aside.mk h
  have HB := Aside.mk hb
  have HG := Aside.mk hg
  have HR := Aside.mk hr
  clear h hb hg hr
  go_enter Tryd.func60, Tryd.ntmps60
  go_wp2
  go_region_with (refine (Inum_any (off := 0) 1 1 rfl (by omega) H.out.drew HB.out (by simp [DirV.cells]) HG.out HR.out).mono ?_; rintro e w1 ⟨rfl, h1, h2, h3⟩; have H1 := Aside.mk h1; have H2 := Aside.mk h2; have H3 := Aside.mk h3; clear h1 h2 h3)
  go_wp2
  go_region_with (refine (Inum_any (off := 1) 4 4 rfl (by omega) H1.out.drew H2.out (by simp [DirV.cells]) HG.out HR.out).mono ?_; rintro e w2 ⟨rfl, h1, h2, h3⟩; have H4 := Aside.mk h1; have H5 := Aside.mk h2; have H6 := Aside.mk h3; clear h1 h2 h3)
  go_wp2
  go_region_with (refine (Ilong_any (off := 2) H4.out.drew H5.out (by simp [DirV.cells]) HG.out HR.out).mono ?_; rintro e w3 ⟨rfl, h1, h2, h3⟩; have H7 := Aside.mk h1; have H8 := Aside.mk h2; have H9 := Aside.mk h3; clear h1 h2 h3)
  go_end0
  exact ⟨rfl, H7.out, H8.out, ((Upd.refl _ w).drew.trans H3.out).trans (((Upd.refl _ w1).drew.trans H6.out).trans ((Upd.refl _ w2).drew.trans H9.out))⟩

theorem blk_new (w : World) (o : Obj) : (w.alloc o).heap[w.heap.size]? = some o := by simpa using heap_alloc_new w o
def RS.nums (q : RS) : RS := ((q.qid.num 4).least (-1)).least (-1)
def RS.body (q : RS) : RS := q.nums.sized.sized.sized.sized
def RS.bodyV (q : RS) : DirV :=
  ⟨q.numV 1, (q.num 1).numV 4, ((q.num 1).num 4).leastV, modeI (q.qid.numV 4), (q.qid.num 4).leastV, ((q.qid.num 4).least (-1)).leastV, q.nums.sizedV, q.nums.sized.sizedV, q.nums.sized.sized.sizedV, q.nums.sized.sized.sized.sizedV⟩
set_option maxRecDepth 100000 in
set_option maxHeartbeats 4000000 in
theorem body_in {w : World} {g r b : Nat} {T : TypeId} (d : DirV) {q : RS} (h : InS w g r q) (hb : w.heap[b]? = some (.cells d.cells.toArray T (0, 0))) (hg : b ≠ g) (hr : b ≠ r) :
    Calls Tryd.prog 48 #[.iface 76 (.pointer (some ⟨g, 0, none⟩)), .pointer (some ⟨b, 0, none⟩)] w (InDone w g r b T q.bodyV.cells q.body) := by
  have HQ := Aside.mk (qid_in d h hb hg hr)
  have HG := Aside.mk hg
  have HR := Aside.mk hr
  have LG := Aside.mk (blk_lt h.cells)
  have LR := Aside.mk (blk_lt h.rd.cells)
  have LB := Aside.mk (blk_lt hb)
  clear h hb hg hr
  go_enter Tryd.func48, Tryd.ntmps48
  go_wp2_with (go_at_call 60; refine HQ.out.mono ?_; rintro e w1 ⟨rfl, h1, h2, h3⟩; have H1 := Aside.mk h1; have B1 := Aside.mk h2; have U1 := Aside.mk h3; clear h1 h2 h3)
  go_region_with (refine (Imode_any (off := 3) H1.out.drew B1.out (by simp [DirV.cells]) HG.out HR.out).mono ?_; rintro e w2 ⟨rfl, h1, h2, h3⟩; have H2 := Aside.mk h1; have B2 := Aside.mk h2; have U2 := Aside.mk (U1.out.trans ((Upd.refl _ w1).drew.trans h3)); clear h1 h2 h3)
  go_wp2
  go_region_with (refine (Ioptional_any (off := 4) H2.out.drew B2.out (by simp [DirV.cells]) HG.out HR.out).mono ?_; rintro e w3 ⟨rfl, h1, h2, h3⟩; have H3 := Aside.mk h1; have B3 := Aside.mk h2; have U3 := Aside.mk (U2.out.trans ((Upd.refl _ w2).drew.trans h3)); clear h1 h2 h3)
  go_wp2
  go_region_with (refine (Ioptional_any (off := 5) H3.out.drew B3.out (by simp [DirV.cells]) HG.out HR.out).mono ?_; rintro e w4 ⟨rfl, h1, h2, h3⟩; have H4 := Aside.mk h1; have B4 := Aside.mk h2; have U4 := Aside.mk (U3.out.trans ((Upd.refl _ w3).drew.trans h3)); clear h1 h2 h3)
  clear H1 H2 H3 B1 B2 B3 U1 U2 U3
  go_wp2
  go_region
  go_wp2
  obtain ⟨w5, hw5⟩ : ∃ w5, w5 = (w4.alloc (.cells #[.pointer (some ⟨b, 6, none⟩), .pointer (some ⟨b, 7, none⟩), .pointer (some ⟨b, 8, none⟩), .pointer (some ⟨b, 9, none⟩)] 97)).drew := ⟨_, rfl⟩
  have H5 := Aside.mk (show InS w5 g r q.nums by rw [hw5]; exact (H4.out.alloc _).drew)
  have B5 := Aside.mk (show w5.heap[b]? = some (.cells (DirV.cells ⟨q.numV 1, (q.num 1).numV 4, ((q.num 1).num 4).leastV, modeI (q.qid.numV 4), (q.qid.num 4).leastV, ((q.qid.num 4).least (-1)).leastV, d.name, d.owner, d.group, d.last⟩).toArray T (0, 0)) by rw [hw5]; exact blk_alloc B4.out)
  have U5 := Aside.mk (show Upd (fun k => k = g ∨ k = r ∨ k = b) w w5 by rw [hw5]; exact ((U4.out).alloc _).drew)
  have S5 := Aside.mk (show w5.heap[w4.heap.size]? = some (.cells #[.pointer (some ⟨b, 6, none⟩), .pointer (some ⟨b, 7, none⟩), .pointer (some ⟨b, 8, none⟩), .pointer (some ⟨b, 9, none⟩)] 97 (0, 0)) by rw [hw5]; exact blk_new w4 _)
  have LN := Aside.mk (show ¬ (w4.heap.size = g ∨ w4.heap.size = r ∨ w4.heap.size = b) by have := U4.out.size; have := LG.out; have := LR.out; have := LB.out; omega)
  rw [← hw5]
  clear hw5 H4 B4
  refine wp_loop_rounds 5 ?_
  have s0 : w5.cell? ⟨w4.heap.size, 0, none⟩ = some (.pointer (some ⟨b, 6, none⟩)) := (blk_cell S5.out 0).trans rfl
  rw [rounds_succ]
  go_wp2_with (go_at_call 103; refine (Itext_any (off := 6) H5.out B5.out (by simp [DirV.cells]) HG.out HR.out).mono ?_; rintro e w6 ⟨rfl, h1, h2, h3⟩; have H6 := Aside.mk h1; have B6 := Aside.mk h2; have U6 := Aside.mk (U5.out.trans h3); have S6 := Aside.mk (h3.block_eq LN.out S5.out); clear h1 h2 h3)
  clear s0
  have s1 : w6.cell? ⟨w4.heap.size, 1, none⟩ = some (.pointer (some ⟨b, 7, none⟩)) := (blk_cell S6.out 1).trans rfl
  rw [rounds_succ]
  go_wp2_with (go_at_call 103; refine (Itext_any (off := 7) H6.out B6.out (by simp [DirV.cells]) HG.out HR.out).mono ?_; rintro e w7 ⟨rfl, h1, h2, h3⟩; have H7 := Aside.mk h1; have B7 := Aside.mk h2; have U7 := Aside.mk (U6.out.trans h3); have S7 := Aside.mk (h3.block_eq LN.out S6.out); clear h1 h2 h3)
  clear s1
  have s2 : w7.cell? ⟨w4.heap.size, 2, none⟩ = some (.pointer (some ⟨b, 8, none⟩)) := (blk_cell S7.out 2).trans rfl
  rw [rounds_succ]
  go_wp2_with (go_at_call 103; refine (Itext_any (off := 8) H7.out B7.out (by simp [DirV.cells]) HG.out HR.out).mono ?_; rintro e w8 ⟨rfl, h1, h2, h3⟩; have H8 := Aside.mk h1; have B8 := Aside.mk h2; have U8 := Aside.mk (U7.out.trans h3); have S8 := Aside.mk (h3.block_eq LN.out S7.out); clear h1 h2 h3)
  clear s2
  have s3 : w8.cell? ⟨w4.heap.size, 3, none⟩ = some (.pointer (some ⟨b, 9, none⟩)) := (blk_cell S8.out 3).trans rfl
  rw [rounds_succ]
  go_wp2_with (go_at_call 103; refine (Itext_any (off := 9) H8.out B8.out (by simp [DirV.cells]) HG.out HR.out).mono ?_; rintro e w9 ⟨rfl, h1, h2, h3⟩; have H9 := Aside.mk h1; have B9 := Aside.mk h2; have U9 := Aside.mk (U8.out.trans h3); have S9 := Aside.mk (h3.block_eq LN.out S8.out); clear h1 h2 h3)
  clear s3
  rw [rounds_succ]
  go_wp2
  go_end0
  exact ⟨rfl, H9.out, B9.out, U9.out⟩
theorem InS.new (w : World) (s : ByteArray) (hs : s.size ≤ 1000000000) :
    InS ((w.alloc (.cells #[.string s, .int .i64 0, .int .i64 0] 105)).alloc (.cells #[.pointer (some ⟨w.heap.size, 0, none⟩), .bool false, .bool false, .bool false] 80)) (w.heap.size + 1) w.heap.size ⟨s, 0, 0, false, false, false⟩ := by
  have h := blk_new (w.alloc (.cells #[.string s, .int .i64 0, .int .i64 0] 105)) (.cells #[.pointer (some ⟨w.heap.size, 0, none⟩), .bool false, .bool false, .bool false] 80)
  rw [World.size_alloc] at h
  exact ⟨(Rd.new w s hs).alloc _, h⟩
end Go.Proofs.YtflofpnagfoeeaaDoor
