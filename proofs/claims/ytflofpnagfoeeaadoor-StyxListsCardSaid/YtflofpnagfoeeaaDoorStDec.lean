/- Decode at the laws' example. -/
import Derived.Test.YtflofpnagfoeeaaDoorStQin
import Derived.Test.YtflofpnagfoeeaaDoorStAwk
import Derived.Laws.ResultCell
import Derived.Laws.Tables
set_option linter.unusedSimpArgs false
set_option linter.unusedVariables false
namespace Go.Proofs.YtflofpnagfoeeaaDoor
open Go.RowKit Go.Proofs.YtflofpnagfoeeaaDoorW.PrintLast

theorem Tryd.infoS : (Tryd.prog.info? 9).map (fun i => (i.zero, i.size, i.bytes)) = some (some (.string ⟨#[]⟩), 1, 16) := by kernel_rfl
set_option maxRecDepth 100000 in
set_option maxHeartbeats 4000000 in
theorem Inames_one {w : World} {g r b off : Nat} {T : TypeId} {cs : List Value} {q : RS} (h : InS w g r q) (hb : w.heap[b]? = some (.cells cs.toArray T (0, 0))) (ho : cs[off]? = some (.slice none 0 0)) (hg : b ≠ g) (hr : b ≠ r) (h1 : q.numV 2 = 1) (hc : q.count.cut = false) :
    Calls Tryd.prog 100 #[.pointer (some ⟨g, 0, none⟩), .pointer (some ⟨b, off, none⟩)] w fun e w' => e = .returned (.tuple #[]) ∧ InS w' g r q.count.sized ∧
      (∃ g1 c1, w'.heap[b]? = some (.cells (cs.set off (.slice (some ⟨g1, 0, none⟩) 1 c1)).toArray T (0, 0)) ∧ w'.cell? ⟨g1, 0, none⟩ = some (.string q.count.sizedV) ∧ w.heap.size ≤ g1) ∧ Upd (fun k => k = g ∨ k = r ∨ k = b) w w' := by
  have HL := Aside.mk (Icount_any h)
  rw [h1] at HL
  have HO := Aside.mk ho
  have HB := Aside.mk hb
  have HG := Aside.mk hg
  have HR := Aside.mk hr
  have HC := Aside.mk hc
  have LB := Aside.mk (blk_lt hb)
  have LG := Aside.mk (blk_lt h.cells)
  have LR := Aside.mk (blk_lt h.rd.cells)
  have hin := Tryd.infoS
  obtain ⟨i0, hi0, hz⟩ := Option.map_eq_some_iff.1 hin
  simp only [Prod.mk.injEq] at hz
  have HI := Aside.mk hi0
  have HZ := Aside.mk hz
  clear h hb ho hg hr h1 hc hin hi0 hz
  generalize q.count = q1 at *
  go_enter Tryd.func100, Tryd.ntmps100
  go_wp2_with (go_at_call 106; refine HL.out.mono ?_; rintro e w1 ⟨rfl, h1, h2⟩; have H1 := Aside.mk h1; have U1 := Aside.mk h2; have B1 := Aside.mk (h2.block_eq (k := b) (fun h => h.elim HG.out HR.out) HB.out); clear h1 h2)
  refine wp_loop_rounds 2 ?_
  rw [rounds_succ]
  have k1 : w1.cell? ⟨g, 3, none⟩ = some (.bool false) := (blk_cell H1.out.cells 3).trans (by rw [HC.out]; rfl)
  have k2 : w1.cell? ⟨b, off, none⟩ = some (.slice none 0 0) := blk_cell' B1.out HO.out
  go_wp2
  clear k1
  have HS := Aside.mk (Isized_any H1.out.drew)
  have HCL := Aside.mk (fun w2 (hu : Upd (fun k => k = g ∨ k = r) w1.drew w2) => hu.cell (p := ⟨b, off, none⟩) (fun h => h.elim HG.out HR.out) k2)
  have HCA := Aside.mk (fun w2 (hu : Upd (fun k => k = g ∨ k = r) w1.drew w2) => And.intro ((World.cell?_alloc_lt w2 (.cells #[.string q1.sizedV] 9) ⟨b, off, none⟩ (World.block_lt_of_cell? _ _ (HCL.out w2 hu))).trans (HCL.out w2 hu)) (show b < (w2.alloc (.cells #[.string q1.sizedV] 9)).heap.size by have h1 : b < w2.heap.size := World.block_lt_of_cell? _ _ (HCL.out w2 hu); rw [World.size_alloc]; omega))
  have HCB := Aside.mk (fun w2 (hu : Upd (fun k => k = g ∨ k = r) w1.drew w2) => blk_alloc (o' := .cells #[.string q1.sizedV] 9) (hu.block_eq (k := b) (fun h => h.elim HG.out HR.out) B1.out))
  refine start_ (n := 10) (S := fun w' => w'.cell? ⟨b, off, none⟩ = some (.slice none 0 0)) (ds := [9]) #[false, false, false, false, false, false, false, false, false, false] (by kernel_rfl) rfl rfl (k2) (fun hHeld => ?_)
  refine pure_ (i := 0) (N := some 18) (v := ?_) (a' := ?_) #[true, false, false, false, false, false, false, false, false, false] rfl rfl (by kernel_rfl) (fun _ _ _ h => h) (Or.inl ⟨by rfl, ?_⟩) ?_ ?_
  rotate_left
  · intro w'
    go_simp
    with_reducible rfl
  rotate_left
  · simp only [Act.put, List.setIfInBounds_toArray, List.set_cons_zero, List.set_cons_succ, i64_w, i32_w]
    rfl
  refine pure_ (i := 1) (N := some 19) (v := ?_) (a' := ?_) #[true, true, false, false, false, false, false, false, false, false] rfl rfl (by kernel_rfl) (fun _ _ _ h => h) (Or.inl ⟨by rfl, ?_⟩) ?_ ?_
  rotate_left
  · intro w'
    go_simp
    with_reducible rfl
  rotate_left
  · simp only [Act.put, List.setIfInBounds_toArray, List.set_cons_zero, List.set_cons_succ, i64_w, i32_w]
    rfl
  refine pure_ (i := 2) (N := some 20) (v := ?_) (a' := ?_) #[true, true, true, false, false, false, false, false, false, false] rfl rfl (by kernel_rfl) (fun _ _ _ h => h) (Or.inl ⟨by rfl, ?_⟩) ?_ ?_
  rotate_left
  · intro w'
    go_simp
    with_reducible rfl
  rotate_left
  · simp only [Act.put, List.setIfInBounds_toArray, List.set_cons_zero, List.set_cons_succ, i64_w, i32_w]
    rfl
  refine pure_ (i := 4) (N := some 22) (v := ?_) (a' := ?_) #[true, true, true, false, true, false, false, false, false, false] rfl rfl (by kernel_rfl) (fun _ _ _ h => h) (Or.inl ⟨by rfl, ?_⟩) ?_ ?_
  rotate_left
  · intro w'
    go_simp
    with_reducible rfl
  rotate_left
  · simp only [Act.put, List.setIfInBounds_toArray, List.set_cons_zero, List.set_cons_succ, i64_w, i32_w]
    rfl
  refine take_ (i := 3) (N := some 21) (v := ?_) (a' := ?_) #[true, true, true, true, true, false, false, false, false, false] rfl rfl (by kernel_rfl) (fun _ _ _ h => h) (Or.inl ⟨by rfl, ?_⟩) hHeld ?_ ?_
  rotate_left
  · intro w' s0
    go_simp
    with_reducible rfl
  rotate_left
  · simp only [Act.put, List.setIfInBounds_toArray, List.set_cons_zero, List.set_cons_succ, i64_w, i32_w]
    rfl
  refine one_ (i := 5) (N := some 23) #[true, true, true, true, true, true, false, false, false, false] rfl rfl (by kernel_rfl) (by decide) (fun K hK => ?_)
  refine goes_ Tryd.func104 (by kernel_rfl) rfl #[.pointer (some ⟨g, 0, none⟩), .int .i64 2] (by rfl) rfl rfl (by simp only [List.map_toArray, List.map_cons, List.map_nil]; rfl) ?_
  with_reducible refine (HS.out).mono ?_
  rintro e w2 ⟨rfl, hr2, hu2⟩
  refine ⟨_, rfl, ?_⟩
  refine hK.out _ _ (HCL.out w2 hu2) (fun hHeld => ?_)
  clear hK K
  refine norm_ (a' := ?_) ?_ ?_
  rotate_left
  · show Act.put _ (some 23) _ = _
    simp only [Act.put, List.setIfInBounds_toArray, List.set_cons_zero, List.set_cons_succ, i64_w, i32_w]
    rfl
  refine one_ (i := 6) (N := some 24) #[true, true, true, true, true, true, true, false, false, false] rfl rfl (by kernel_rfl) (by decide) (fun K hK => ?_)
  refine value_ (w1 := ?_) (v := ?_) (by rfl) rfl ?_ ?_
  rotate_left 2
  · go_simp
    constructor
    · rfl
    · rfl
  refine hK.out _ _ ((HCA.out w2 hu2).1) (fun hHeld => ?_)
  clear hK K
  refine norm_ (a' := ?_) ?_ ?_
  rotate_left
  · show Act.put _ (some 24) _ = _
    simp only [Act.put, List.setIfInBounds_toArray, List.set_cons_zero, List.set_cons_succ, i64_w, i32_w]
    rfl
  refine one_ (i := 7) (N := some 25) #[true, true, true, true, true, true, true, true, false, false] rfl rfl (by kernel_rfl) (by decide) (fun K hK => ?_)
  refine step_append_lies (w2.alloc (.cells #[.string q1.sizedV] 9)) rfl (.tmp 21) (.tmp 24) 43 rfl 0 9 i0 (.string ⟨#[]⟩) 1 16 Tryd.underlying43 HI.out HZ.out.1 HZ.out.2.1 HZ.out.2.2 rfl (by decide) (.slice none 0 0) 0 [] rfl ⟨rfl, .inl ⟨rfl, rfl⟩⟩ ⟨w2.heap.size, 0, none⟩ 1 1 [.string q1.sizedV] rfl rfl (World.news_of_block (blk_new w2 _)) (by intro u hu; simp only [List.mem_singleton] at hu; subst hu; rfl) (by decide) (by decide) (by decide) (Nat.zero_le _) _ rfl ?_
  intro g1 c1 w3 ho1 hg1 hv1 hl1
  have hb3 := (hg1.block b (HCA.out w2 hu2).2 (by intro h; cases h)).trans (HCB.out w2 hu2)
  have fz := blk_frozen hb3 off
  refine hK.out _ _ ((hg1.cell_far ⟨b, off, none⟩ (HCA.out w2 hu2).2 (by intro h; cases h)).trans (HCA.out w2 hu2).1) (fun hHeld => ?_)
  clear hK K
  refine norm_ (a' := ?_) ?_ ?_
  rotate_left
  · show Act.put _ (some 25) _ = _
    simp only [Act.put, List.setIfInBounds_toArray, List.set_cons_zero, List.set_cons_succ, i64_w, i32_w]
    rfl
  refine pure_ (i := 8) (N := some 26) (v := ?_) (a' := ?_) #[true, true, true, true, true, true, true, true, true, false] rfl rfl (by kernel_rfl) (fun _ _ _ h => h) (Or.inl ⟨by rfl, ?_⟩) ?_ ?_
  rotate_left
  · intro w'
    go_simp
    with_reducible rfl
  rotate_left
  · simp only [Act.put, List.setIfInBounds_toArray, List.set_cons_zero, List.set_cons_succ, i64_w, i32_w]
    rfl
  refine last_ (i := 9) (N := none) #[true, true, true, true, true, true, true, true, true, true] rfl rfl (by kernel_rfl) (by decide) (fun K hK => ?_)
  refine skip_ (w1 := ?_) (by rfl) rfl ?_ ?_
  rotate_left
  · go_simp
    rfl
  refine hK.out _ _ ?_
  clear hK K
  refine done_ (by kernel_rfl) ?_
  have HO1 := Aside.mk ho1
  have HB3 := Aside.mk hb3
  have HG1 := Aside.mk hg1
  have HV1 := Aside.mk (show g1 = (w2.alloc (.cells #[.string q1.sizedV] 9)).heap.size from hv1.resolve_left (by intro h; cases h))
  have HR2 := Aside.mk hr2
  have HU2 := Aside.mk hu2
  clear hr2 hu2 ho1 hg1 hv1 hl1 k2 hb3 fz
  go_wp2
  rw [rounds_succ]
  go_wp2
  go_end0
  have hn : ¬ g1 = b := by have h1 := HV1.out; have h2 := (HCA.out w2 HU2.out).2; omega
  have u3 : Upd (fun _ => False) (w2.alloc (.cells #[.string q1.sizedV] 9)) w3 := (Upd.refl _ _).grown HG1.out (by intro k hk; cases hk)
  refine ⟨rfl, ?_, ⟨g1, c1, blk_set' HB3.out off _, ?_, ?_⟩, ?_⟩
  · exact ((HR2.out.alloc _).keep u3 (fun h => h) (fun h => h)).other HG.out HR.out off _
  · have h1 := HO1.out.cells (g := g1) rfl 0 _ rfl
    exact (World.cell?_of_block (Below.heap_setCell _ _ _ _ (fun e => hn e))).trans h1
  · have h1 := HV1.out
    have h2 := U1.out.size
    have h3 := HU2.out.size
    rw [World.size_alloc] at h1
    have h4 : w1.drew.heap.size = w1.heap.size := rfl
    omega
  · have h1 : Upd (fun k => k = g ∨ k = r) w w3 := ((U1.out.trans ((Upd.refl _ w1).drew.trans HU2.out)).alloc _).trans (u3.mono (fun _ h => h.elim))
    exact (h1.mono (fun k hk => hk.elim .inl (fun h => .inr (.inl h)))).setCell (p := ⟨b, off, none⟩) (.inr (.inr rfl)) _

attribute [local go_sem] nil_num_in met_num_in nil_names_in met_names_in
set_option maxRecDepth 100000 in
set_option maxHeartbeats 4000000 in
theorem fields_in_walk {w : World} {g r b : Nat} {q : RS} (tag fid other old size offset mode perm : Int) (ver user tree name : ByteArray) (qids : Value) (data : ByteArray) (d : DirV) (code : Int)
    (h : InS w g r q) (hb : w.heap[b]? = some (.cells (msgCells 110 tag fid other old size offset mode perm ver user tree name (.slice none 0 0) qids data d code).toArray 46 (0, 0))) (hg : b ≠ g) (hr : b ≠ r)
    (h1 : ((q.num 4).num 4).numV 2 = 1) (hc : ((q.num 4).num 4).count.cut = false) :
    Calls Tryd.prog 28 #[.iface 76 (.pointer (some ⟨g, 0, none⟩)), .pointer (some ⟨b, 0, none⟩)] w fun e w' => e = .returned (.tuple #[]) ∧ InS w' g r ((q.num 4).num 4).count.sized ∧
      (∃ g1 c1, w'.heap[b]? = some (.cells (msgCells 110 tag (q.numV 4) ((q.num 4).numV 4) old size offset mode perm ver user tree name (.slice (some ⟨g1, 0, none⟩) 1 c1) qids data d code).toArray 46 (0, 0)) ∧
        w'.cell? ⟨g1, 0, none⟩ = some (.string ((q.num 4).num 4).count.sizedV) ∧ w.heap.size ≤ g1) ∧ Upd (fun k => k = g ∨ k = r ∨ k = b) w w' := by
  have H := Aside.mk h
  have HB := Aside.mk hb
  have HG := Aside.mk hg
  have HR := Aside.mk hr
  have H1' := Aside.mk h1
  have HC := Aside.mk hc
  have c0 : w.cell? ⟨b, 0, none⟩ = some (.int .i64 110) := (blk_cell hb 0).trans rfl
  clear h hb hg hr h1 hc
  go_enter Tryd.func28, Tryd.ntmps28
  go_wp2
  go_region_with (refine (Inum_any (off := 2) 4 4 rfl (by omega) H.out.drew HB.out (by simp [msgCells]) HG.out HR.out).mono ?_; rintro e w1 ⟨rfl, h1, h2, h3⟩; have H1 := Aside.mk h1; have B1 := Aside.mk h2; have U1 := Aside.mk h3; clear h1 h2 h3)
  clear c0
  go_wp2
  go_region_with (refine (Inum_any (off := 3) 4 4 rfl (by omega) H1.out.drew B1.out (by simp [msgCells]) HG.out HR.out).mono ?_; rintro e w2 ⟨rfl, h1, h2, h3⟩; have H2 := Aside.mk h1; have B2 := Aside.mk h2; have U2 := Aside.mk h3; clear h1 h2 h3)
  go_wp2
  go_region_with (refine (Inames_one (off := 13) H2.out.drew B2.out rfl HG.out HR.out H1'.out HC.out).mono ?_; rintro e w3 ⟨rfl, h1, ⟨g1, c1, h2, h4, h5⟩, h3⟩; have H3 := Aside.mk h1; have B3 := Aside.mk h2; have C3 := Aside.mk h4; have G3 := Aside.mk h5; have U3 := Aside.mk h3; clear h1 h2 h3 h4 h5)
  go_end0
  have u2 := ((Upd.refl _ w).drew.trans U1.out).trans ((Upd.refl _ w1).drew.trans U2.out)
  exact ⟨rfl, H3.out, ⟨g1, c1, B3.out, C3.out, Nat.le_trans u2.size G3.out⟩, u2.trans ((Upd.refl _ w2).drew.trans U3.out)⟩

set_option maxRecDepth 100000 in
theorem length_any (s : ByteArray) (hs : s.size ≤ 1000000000) (w : World) :
    Calls Tryd.prog 34 #[.string s] w fun e w' => e = .returned (.int .i64 (litV s 0 0 4)) ∧ Below w.heap.size w w' := by
  have HL := Aside.mk (RLittle_any 4 4 rfl (by omega) (Rd.new w s hs))
  have HB := Aside.mk (show Below w.heap.size w (w.alloc (.cells #[.string s, .int .i64 0, .int .i64 0] 105)) from (Below.refl _ _).alloc (Nat.le_refl _) _)
  go_enter Tryd.func34, Tryd.ntmps34
  go_wp2_with (first | (go_at_call 35; refine (NewReader_any s w).mono ?_; rintro e w1 ⟨rfl, rfl⟩) | (go_at_call 47; refine HL.out.mono ?_; rintro e w2 ⟨rfl, h1, h2⟩; have U := Aside.mk h2; clear h1 h2))
  go_ret
  have h1 : Upd (fun k => w.heap.size ≤ k) w w2 := (Upd.of_below HB.out).trans (U.out.mono (fun k hk => by omega))
  exact ⟨rfl, h1.below (Nat.le_refl _)⟩

def exB : ByteArray := ⟨#[20, 0, 0, 0, 110, 2, 1, 1, 0, 0, 0, 2, 0, 0, 0, 1, 0, 1, 0, 97]⟩
def exT : ByteArray := ⟨#[110, 2, 1, 1, 0, 0, 0, 2, 0, 0, 0, 1, 0, 1, 0, 97]⟩
def ex0 : RS := ⟨exT, 0, 0, false, false, false⟩
def ex2 : RS := (ex0.num 1).num 2
theorem ex_len : litV exB 0 0 4 = 20 := by kernel_rfl
theorem ex_k : ex0.numV 1 = 110 := by kernel_rfl
theorem ex_t : (ex0.num 1).numV 2 = 258 := by kernel_rfl
theorem ex_f : ex2.numV 4 = 1 := by kernel_rfl
theorem ex_o : (ex2.num 4).numV 4 = 2 := by kernel_rfl
theorem ex_n : ((ex2.num 4).num 4).numV 2 = 1 := by kernel_rfl
theorem ex_c : ((ex2.num 4).num 4).count.cut = false := by kernel_rfl
theorem ex_v : ((ex2.num 4).num 4).count.sizedV = ⟨#[97]⟩ := by kernel_rfl
theorem ex_e : ((ex2.num 4).num 4).count.sized.finish.err = 0 := by kernel_rfl
theorem ex_s : exB.extract 4 20 = exT := by kernel_rfl
theorem results_cell_tmp_row {P : Program} {fn : Func} {p u : Tmp} {ty : TypeId} (h : fn.results = #[.cell p ty, .tmp u]) (tmps : Array Value) (w : World) (g : Nat) (t : TypeId) (cs : Array Value) (fr : Nat × Nat) (d : TypeDesc)
    (hp : tmps.getD p undef = .pointer (some ⟨g, 0, none⟩)) (hg : w.heap[g]? = some (.cells cs t fr))
    (hu : P.underlying ty = some d) (hd : (match d with | .struct _ | .array _ _ => true | _ => false) = true) (hi : (P.info? ty).map (·.size) = some cs.size) :
    (results fn tmps).run P w = .ok (.tuple #[.agg cs, tmps.getD u undef]) w := by
  rw [results_cell_tmp h, hp]
  simp [asAddr, run_loadVar_row w g t ty cs fr d hg hu hd hi]
/-- The message with its numbers. -/
def exM (kind tag fid other : Int) (names : Value) : List Value :=
  msgCells kind tag fid other 0 0 0 0 0 ⟨#[]⟩ ⟨#[]⟩ ⟨#[]⟩ ⟨#[]⟩ names (.slice none 0 0) ⟨#[]⟩ ⟨0, 0, 0, 0, 0, 0, ⟨#[]⟩, ⟨#[]⟩, ⟨#[]⟩, ⟨#[]⟩⟩ 0
set_option maxRecDepth 100000 in
set_option maxHeartbeats 4000000 in
theorem Decode_walk {B : Nat} (w : World) (hW : WordsIn B w) :
    Calls Tryd.prog 15 #[.string exB] w fun e w' => (∃ g1 c1, e = .returned (.tuple #[.agg (exM 110 258 1 2 (.slice (some ⟨g1, 0, none⟩) 1 c1)).toArray, .int .i64 0]) ∧ w'.cell? ⟨g1, 0, none⟩ = some (.string ⟨#[97]⟩) ∧ w.heap.size ≤ g1) ∧ Below w.heap.size w w' := by
  have HW := Aside.mk hW
  clear hW
  have ES := ex_s
  have EL := Aside.mk ex_len
  have ZB : exB.size = 20 := rfl
  have HL := Aside.mk (fun W => length_any exB (by decide) W)
  rw [EL.out] at HL
  go_enter Tryd.func15, Tryd.ntmps15
  go_wp2_with (first | (go_at_call 34; refine (HL.out _).mono ?_; rintro e w1 ⟨rfl, h1⟩; have B1 := Aside.mk h1; clear h1) | (go_at_call 35; refine (NewReader_any _ _).mono ?_; rintro e w2 ⟨rfl, rfl⟩) | (go_at_call 36; fail))
  have W1 := Aside.mk (HW.out.below ((((Below.refl _ _).alloc (Nat.le_refl _) _).trans (B1.out.mono (by simp)))))
  have HI := Aside.mk (show InS _ (w1.heap.size + 1) w1.heap.size ex0 from (InS.new w1 exT (by decide)).alloc (.cells (exM 0 0 0 0 (.slice none 0 0)).toArray 46))
  have HM := Aside.mk (blk_new ((w1.alloc (.cells #[.string exT, .int .i64 0, .int .i64 0] 105)).alloc (.cells #[.pointer (some ⟨w1.heap.size, 0, none⟩), .bool false, .bool false, .bool false] 80)) (.cells (exM 0 0 0 0 (.slice none 0 0)).toArray 46))
  have U0 := Aside.mk (show Upd (fun k => w1.heap.size ≤ k) w1 (((w1.alloc (.cells #[.string exT, .int .i64 0, .int .i64 0] 105)).alloc (.cells #[.pointer (some ⟨w1.heap.size, 0, none⟩), .bool false, .bool false, .bool false] 80)).alloc (.cells (exM 0 0 0 0 (.slice none 0 0)).toArray 46)) from (((Upd.refl _ w1).alloc _).alloc _).alloc _)
  simp only [World.size_alloc] at HM
  have R1 := Aside.mk (B1.out.block w.heap.size (by simp))
  refine (Inum_any (off := 0) (b := w1.heap.size + 1 + 1) 1 1 rfl (by omega) HI.out HM.out (by simp [exM, msgCells]) (by omega) (by omega)).mono ?_
  rintro e w2 ⟨rfl, h1, h2, h3⟩
  have I2 := Aside.mk h1
  have M2 := Aside.mk h2
  have U2 := Aside.mk (U0.out.trans (h3.mono (fun k hk => by omega)))
  clear h1 h2 h3 HI HM U0
  go_wp2_with (first | (go_at_call 36; refine (Inum_any (off := 1) (b := w1.heap.size + 1 + 1) 2 2 rfl (by omega) I2.out M2.out (by simp [exM, msgCells]) (by omega) (by omega)).mono ?_; rintro e w3 ⟨rfl, h1, h2, h3⟩; have I3 := Aside.mk h1; have U3 := Aside.mk (U2.out.trans (h3.mono (fun k hk => by omega))); rw [ex_k, ex_t] at h2; have M3 := Aside.mk h2; have k3 : w3.cell? ⟨w1.heap.size + 1 + 1, 0, none⟩ = some (.int .i64 110) := blk_cell' h2 rfl; clear h1 h2 h3))
  have R3 := Aside.mk ((U3.out.block w.heap.size (by have := B1.out.size; simp only [World.size_alloc] at this; omega) (by have := B1.out.size; simp only [World.size_alloc] at this; omega)).trans (R1.out.trans (blk_new w _)))
  have L1 := Aside.mk (show w.heap.size < w1.heap.size by have := B1.out.size; simp only [World.size_alloc] at this; omega)
  have W3 := Aside.mk (W1.out.keep U3.out (fun k hk => by have := W1.out.2.1; omega))
  have L3 := Aside.mk (show w1.heap.size + 1 + 1 < w3.heap.size from blk_lt M3.out)
  have EK := Aside.mk (show isKnown 110 = true by rw [isKnown_eq]; decide)
  have HK := Aside.mk (known_any 110 W3.out (by omega))
  rw [EK.out] at HK
  refine HK.out.mono ?_
  rintro e w4 ⟨rfl, rfl⟩
  clear k3 W1 EK HK R1 W3 U2 M2 I2 HW
  have HF := Aside.mk (fields_in_walk (q := ex2) 258 0 0 0 0 0 0 0 ⟨#[]⟩ ⟨#[]⟩ ⟨#[]⟩ ⟨#[]⟩ (.slice none 0 0) ⟨#[]⟩ ⟨0, 0, 0, 0, 0, 0, ⟨#[]⟩, ⟨#[]⟩, ⟨#[]⟩, ⟨#[]⟩⟩ 0 I3.out M3.out (by omega) (by omega) ex_n ex_c)
  rw [ex_f, ex_o, ex_v] at HF
  go_wp2_with (first | (go_at_call 28; refine HF.out.mono ?_; rintro e w4 ⟨rfl, h1, ⟨g1, c1, h2, h4, h5⟩, h3⟩; have I4 := Aside.mk h1; have M4 := Aside.mk h2; have C4 := Aside.mk h4; have G4 := Aside.mk h5; have U4 := Aside.mk h3; clear h1 h2 h3 h4 h5) | (go_at_call 37; refine (Ifinish_any I4.out).mono ?_; rintro e w5 ⟨rfl, h1, h2⟩; have I5 := Aside.mk h1; have U5 := Aside.mk h2; clear h1 h2))
  have HE := Aside.mk (Ierr_any I5.out)
  rw [ex_e] at HE
  refine HE.out.mono ?_
  rintro e w6 ⟨rfl, rfl⟩
  have M5 := Aside.mk (U5.out.block_eq (k := w1.heap.size + 1 + 1) (by omega) M4.out)
  have R5 := Aside.mk (U5.out.block_eq (k := w.heap.size) (by have := L1.out; omega) (U4.out.block_eq (k := w.heap.size) (by have := L1.out; omega) R3.out))
  have C5 := Aside.mk (U5.out.cell (p := ⟨g1, 0, none⟩) (show ¬ (g1 = w1.heap.size + 1 ∨ g1 = w1.heap.size) by have := G4.out; have := L3.out; omega) C4.out)
  unfold msgCells at M5
  go_wp2_with (first | (with_reducible refine wpList_load_row rfl 46 (.tmp 6) rfl (w1.heap.size + 1 + 1) rfl 46 _ (0, 0) _ M5.out Tryd.underlying46 rfl (by as_aux_lemma => kernel_rfl) ?_) | (with_reducible refine wpList_store_row rfl 46 (.tmp 2) (.tmp 52) rfl w.heap.size _ rfl rfl 46 _ R5.out (by as_aux_lemma => kernel_rfl) (by as_aux_lemma => kernel_rfl) (by as_aux_lemma => kernel_rfl) ?_))
  have RR := setRow_heap w5 w.heap.size _ #[.int .i64 110, .int .i64 258, .int .i64 1, .int .i64 2, .int .i64 0, .int .i64 0, .int .i64 0, .int .i64 0, .int .i64 0, .string ⟨#[]⟩, .string ⟨#[]⟩, .string ⟨#[]⟩, .string ⟨#[]⟩, .slice (some ⟨g1, 0, none⟩) 1 c1, .slice none 0 0, .string ⟨#[]⟩, .int .i64 0, .int .i64 0, .int .i64 0, .int .i64 0, .int .i64 0, .int .i64 0, .string ⟨#[]⟩, .string ⟨#[]⟩, .string ⟨#[]⟩, .string ⟨#[]⟩, .int .i64 0] _ _ R5.out
  refine bodyPost_ret (results_cell_tmp_row (p := 2) (u := 3) (ty := 46) rfl _ _ w.heap.size _ _ _ _ rfl RR Tryd.underlying46 rfl (by as_aux_lemma => kernel_rfl)) rfl ?_
  have z1 := L1.out
  have z3 := L3.out
  have z4 := G4.out
  have u6 : Upd (fun k => w1.heap.size ≤ k) w1 w5 := U3.out.trans ((U4.out.mono (fun k hk => by omega)).trans (U5.out.mono (fun k hk => by omega)))
  have u7 : Upd (fun k => w.heap.size ≤ k) w w5 := ((((Upd.refl _ w).alloc _).trans ((Upd.of_below B1.out).mono (fun k hk => by simp only [World.size_alloc] at hk; omega))).trans (u6.mono (fun k hk => by omega)))
  refine ⟨⟨g1, c1, rfl, ?_, by omega⟩, ?_⟩
  · rw [cell_setRow_other _ _ _ _ (show g1 ≠ w.heap.size by omega)]
    exact C5.out
  · have u8 : Upd (fun k => w.heap.size ≤ k) w5 (w5.setRow w.heap.size #[.int .i64 110, .int .i64 258, .int .i64 1, .int .i64 2, .int .i64 0, .int .i64 0, .int .i64 0, .int .i64 0, .int .i64 0, .string ⟨#[]⟩, .string ⟨#[]⟩, .string ⟨#[]⟩, .string ⟨#[]⟩, .slice (some ⟨g1, 0, none⟩) 1 c1, .slice none 0 0, .string ⟨#[]⟩, .int .i64 0, .int .i64 0, .int .i64 0, .int .i64 0, .int .i64 0, .int .i64 0, .string ⟨#[]⟩, .string ⟨#[]⟩, .string ⟨#[]⟩, .string ⟨#[]⟩, .int .i64 0]) :=
      ⟨rfl, rfl, rfl, by simp, fun k hk hn => setRow_other _ _ _ _ (fun e => hn (by omega))⟩
    exact (u7.trans u8).below (Nat.le_refl _)
end Go.Proofs.YtflofpnagfoeeaaDoor
