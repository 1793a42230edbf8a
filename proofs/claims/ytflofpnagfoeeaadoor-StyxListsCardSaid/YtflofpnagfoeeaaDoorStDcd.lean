/- DecodeDir: what it returns of any string. -/
import Derived.Test.YtflofpnagfoeeaaDoorStQin
import Derived.Test.YtflofpnagfoeeaaDoorStEnc
import Derived.Laws.ResultCell
import Derived.Laws.Tables
set_option linter.unusedSimpArgs false
set_option linter.unusedVariables false
namespace Go.Proofs.YtflofpnagfoeeaaDoor
open Go.RowKit Go.Proofs.YtflofpnagfoeeaaDoorW.PrintLast

def zeroD : DirV := ⟨0, 0, 0, 0, 0, 0, ⟨#[]⟩, ⟨#[]⟩, ⟨#[]⟩, ⟨#[]⟩⟩
/-- The reader of a Dir's bytes. -/
def dirQ (s : ByteArray) : RS := ⟨s.extract 2 ((litV s 0 0 2).toNat + 2), 0, 0, false, false, false⟩
/-- What DecodeDir returns. -/
def decF (s : ByteArray) : DirV × Int × Int :=
  if litE s 0 0 2 ≠ 0 then (zeroD, 0, 16) else if (s.size : Int) < litV s 0 0 2 + 2 then (zeroD, 0, 16) else if 1024 < litV s 0 0 2 + 2 then (zeroD, 0, 3)
  else if (dirQ s).body.finish.err = 0 then ((dirQ s).bodyV, litV s 0 0 2 + 2, 0) else (zeroD, 0, (dirQ s).body.finish.err)
theorem results_cell_tmp2_row {P : Program} {fn : Func} {p u v : Tmp} {ty : TypeId} (h : fn.results = #[.cell p ty, .tmp u, .tmp v]) (tmps : Array Value) (w : World) (g : Nat) (t : TypeId) (cs : Array Value) (fr : Nat × Nat) (d : TypeDesc)
    (hp : tmps.getD p undef = .pointer (some ⟨g, 0, none⟩)) (hg : w.heap[g]? = some (.cells cs t fr))
    (hu : P.underlying ty = some d) (hd : (match d with | .struct _ | .array _ _ => true | _ => false) = true) (hi : (P.info? ty).map (·.size) = some cs.size) :
    (results fn tmps).run P w = .ok (.tuple #[.agg cs, tmps.getD u undef, tmps.getD v undef]) w := by
  have e : (results fn tmps).run P w = ((asAddr (tmps.getD p undef)).run P w).andThen fun a w₁ => ((loadVar ty a).run P w₁).andThen fun x w₂ => .ok (.tuple #[x, tmps.getD u undef, tmps.getD v undef]) w₂ := by
    simp only [results, h]
    simp [Sem.run_bind, Result.andThen]
  rw [e, hp]
  simp [asAddr, run_loadVar_row w g t ty cs fr d hg hu hd hi]
theorem litV_two (s : ByteArray) : 0 ≤ litV s 0 0 2 ∧ litV s 0 0 2 < 65536 := by
  have h1 := leN_bound s 0 2
  unfold litV
  split <;> omega
theorem err_cases (q : RS) : q.err = 0 ∨ q.err = 2 ∨ q.err = 11 ∨ q.err = 3 := by
  unfold RS.err
  split
  · exact .inr (.inl rfl)
  · split
    · exact .inr (.inr (.inl rfl))
    · split
      · exact .inr (.inr (.inr rfl))
      · exact .inl rfl
theorem below_row {B g : Nat} {w0 w : World} (hb : Below B w0 w) (hBg : B ≤ g) (cs : Array Value) : Below B w0 (w.setRow g cs) :=
  hb.trans ⟨rfl, rfl, rfl, by simp [World.setRow], fun k hk => setRow_other w g k cs (by omega)⟩
set_option maxRecDepth 100000 in
set_option maxHeartbeats 4000000 in
theorem DecodeDir_any (s : ByteArray) (hs : s.size ≤ 1000000000) (w : World) :
    Calls Tryd.prog 23 #[.string s] w fun e w' => e = .returned (.tuple #[.agg (decF s).1.cells.toArray, .int .i64 (decF s).2.1, .int .i64 (decF s).2.2]) ∧ Below w.heap.size w w' := by
  have hb := litV_two s
  have hr := Rd.new (w.alloc (.cells zeroD.cells.toArray 34)) s hs
  rw [World.size_alloc] at hr
  have HL := Aside.mk (RLittle_any 2 2 rfl (by omega) hr)
  have HB := Aside.mk hb
  have HS := Aside.mk hs
  have BA := Aside.mk (show Below w.heap.size w ((w.alloc (.cells zeroD.cells.toArray 34)).alloc (.cells #[.string s, .int .i64 0, .int .i64 0] 105)) from ((Below.refl _ _).alloc (Nat.le_refl _) _).alloc (by simp) _)
  have R0 := Aside.mk (blk_alloc (o' := .cells #[.string s, .int .i64 0, .int .i64 0] 105) (blk_new w (.cells zeroD.cells.toArray 34)))
  have ZD : Aside (zeroD.cells.toArray = #[.int .i64 0, .int .i64 0, .int .i64 0, .int .i64 0, .int .i64 0, .int .i64 0, .string ⟨#[]⟩, .string ⟨#[]⟩, .string ⟨#[]⟩, .string ⟨#[]⟩]) := ⟨rfl⟩
  have hss : s.size ≤ 9223372036854775807 := by omega
  have NH : ∀ q : ByteArray × Nat × Nat × Nat, True := fun _ => trivial
  unfold zeroD DirV.cells at HL BA R0
  clear hr hb NH
  by_cases h1 : litE s 0 0 2 ≠ 0
  · have EF := Aside.mk (show decF s = (zeroD, 0, 16) from if_pos h1)
    rw [EF.out, ZD.out]
    obtain ⟨er, her⟩ : ∃ er, er = litE s 0 0 2 := ⟨_, rfl⟩
    rw [← her] at HL h1
    clear her EF
    have h2 : (er != 0) = true := bne_iff_ne.2 h1
    go_enter Tryd.func23, Tryd.ntmps23
    go_wp2_with fail
    refine (NewReader_any s _).mono ?_
    rintro e w1 ⟨rfl, rfl⟩
    go_wp2_with fail
    refine HL.out.mono ?_
    rintro e w2 ⟨rfl, h3, h4⟩
    have U := Aside.mk h4
    have R2 := Aside.mk (h4.block_eq (k := w.heap.size) (by omega) R0.out)
    have B2 := Aside.mk (((Upd.of_below BA.out).trans (U.out.mono (fun k hk => by omega))).below (Nat.le_refl _))
    have LW := Aside.mk (blk_lt R2.out)
    clear h3 h4 HL BA R0 U
    go_wp2_with (with_reducible refine wpList_store_row rfl 34 (.tmp 2) (.tmp 28) rfl w.heap.size _ rfl rfl 34 _ R2.out (by as_aux_lemma => kernel_rfl) (by as_aux_lemma => kernel_rfl) (by as_aux_lemma => kernel_rfl) ?_)
    have RR := setRow_heap w2 w.heap.size _ #[.int .i64 0, .int .i64 0, .int .i64 0, .int .i64 0, .int .i64 0, .int .i64 0, .string ⟨#[]⟩, .string ⟨#[]⟩, .string ⟨#[]⟩, .string ⟨#[]⟩] _ _ R2.out
    refine bodyPost_ret (results_cell_tmp2_row (p := 2) (u := 3) (v := 4) (ty := 34) rfl _ _ w.heap.size _ _ _ _ rfl RR Tryd.underlying34 rfl (by as_aux_lemma => kernel_rfl)) rfl ?_
    exact ⟨rfl, below_row B2.out (Nat.le_refl _) _⟩
  · have h1' := Classical.not_not.1 h1
    rw [h1'] at HL
    obtain ⟨n, hn⟩ := Int.eq_ofNat_of_zero_le HB.out.1
    have HN := Aside.mk (show n < 65536 by have := HB.out.2; omega)
    have hnw : wrap64 ((n : Int) + 2) = (n : Int) + 2 := by have := HN.out; unfold wrap64; omega
    by_cases h2 : (s.size : Int) < litV s 0 0 2 + 2
    · have EF := Aside.mk (show decF s = (zeroD, 0, 16) by unfold decF; rw [if_neg h1, if_pos h2])
      rw [EF.out, ZD.out]
      rw [hn] at HL h2
      clear EF h1 h1' hn
      go_enter Tryd.func23, Tryd.ntmps23
      go_wp2_with fail
      refine (NewReader_any s _).mono ?_
      rintro e w1 ⟨rfl, rfl⟩
      go_wp2_with fail
      refine HL.out.mono ?_
      rintro e w2 ⟨rfl, h3, h4⟩
      have U := Aside.mk h4
      have R2 := Aside.mk (h4.block_eq (k := w.heap.size) (by omega) R0.out)
      have B2 := Aside.mk (((Upd.of_below BA.out).trans (U.out.mono (fun k hk => by omega))).below (Nat.le_refl _))
      have LW := Aside.mk (blk_lt R2.out)
      clear h3 h4 HL BA R0 U
      go_wp2_with (with_reducible refine wpList_store_row rfl 34 (.tmp 2) (.tmp 28) rfl w.heap.size _ rfl rfl 34 _ R2.out (by as_aux_lemma => kernel_rfl) (by as_aux_lemma => kernel_rfl) (by as_aux_lemma => kernel_rfl) ?_)
      have RR := setRow_heap w2 w.heap.size _ #[.int .i64 0, .int .i64 0, .int .i64 0, .int .i64 0, .int .i64 0, .int .i64 0, .string ⟨#[]⟩, .string ⟨#[]⟩, .string ⟨#[]⟩, .string ⟨#[]⟩] _ _ R2.out
      refine bodyPost_ret (results_cell_tmp2_row (p := 2) (u := 3) (v := 4) (ty := 34) rfl _ _ w.heap.size _ _ _ _ rfl RR Tryd.underlying34 rfl (by as_aux_lemma => kernel_rfl)) rfl ?_
      exact ⟨rfl, below_row B2.out (Nat.le_refl _) _⟩
    · by_cases h3 : 1024 < litV s 0 0 2 + 2
      · have EF := Aside.mk (show decF s = (zeroD, 0, 3) by unfold decF; rw [if_neg h1, if_neg h2, if_pos h3])
        rw [EF.out, ZD.out]
        rw [hn] at HL h2 h3
        have h6 : (n : Int) + 2 ≤ s.size := by omega
        clear EF h1 h1' hn h2
        go_enter Tryd.func23, Tryd.ntmps23
        go_wp2_with fail
        refine (NewReader_any s _).mono ?_
        rintro e w1 ⟨rfl, rfl⟩
        go_wp2_with fail
        refine HL.out.mono ?_
        rintro e w2 ⟨rfl, h3, h4⟩
        have U := Aside.mk h4
        have R2 := Aside.mk (h4.block_eq (k := w.heap.size) (by omega) R0.out)
        have B2 := Aside.mk (((Upd.of_below BA.out).trans (U.out.mono (fun k hk => by omega))).below (Nat.le_refl _))
        have LW := Aside.mk (blk_lt R2.out)
        clear h3 h4 HL BA R0 U
        go_wp2_with (with_reducible refine wpList_store_row rfl 34 (.tmp 2) (.tmp 32) rfl w.heap.size _ rfl rfl 34 _ R2.out (by as_aux_lemma => kernel_rfl) (by as_aux_lemma => kernel_rfl) (by as_aux_lemma => kernel_rfl) ?_)
        have RR := setRow_heap w2 w.heap.size _ #[.int .i64 0, .int .i64 0, .int .i64 0, .int .i64 0, .int .i64 0, .int .i64 0, .string ⟨#[]⟩, .string ⟨#[]⟩, .string ⟨#[]⟩, .string ⟨#[]⟩] _ _ R2.out
        refine bodyPost_ret (results_cell_tmp2_row (p := 2) (u := 3) (v := 4) (ty := 34) rfl _ _ w.heap.size _ _ _ _ rfl RR Tryd.underlying34 rfl (by as_aux_lemma => kernel_rfl)) rfl ?_
        exact ⟨rfl, below_row B2.out (Nat.le_refl _) _⟩
      · have EQ := Aside.mk (show dirQ s = ⟨s.extract 2 (n + 2), 0, 0, false, false, false⟩ by unfold dirQ; rw [hn]; rfl)
        have EF := Aside.mk (show decF s = if (dirQ s).body.finish.err = 0 then ((dirQ s).bodyV, litV s 0 0 2 + 2, 0) else (zeroD, 0, (dirQ s).body.finish.err) by unfold decF; rw [if_neg h1, if_neg h2, if_neg h3])
        rw [EF.out, hn]
        rw [hn] at HL h2 h3
        have ES := Aside.mk (show (s.extract 2 (n + 2)).size ≤ 1000000000 by rw [ByteArray.size_extract]; omega)
        generalize dirQ s = q at *
        clear EF h1 h1' hn
        have h4 : (n : Int) + 2 ≤ s.size := by omega
        have h5 : (2 : Int) ≤ (n : Int) + 2 := by omega
        clear h2
        rcases err_cases q.body.finish with he | he | he | he
        · rw [if_pos he]
          show Calls Tryd.prog 23 #[.string s] w fun e w' => e = .returned (.tuple #[.agg q.bodyV.cells.toArray, .int .i64 ((n : Int) + 2), .int .i64 0]) ∧ Below w.heap.size w w'
          obtain ⟨cs, hcs⟩ : ∃ cs, cs = q.bodyV.cells := ⟨_, rfl⟩
          rw [← hcs]
          have HCS := Aside.mk hcs
          clear hcs
          have HE := Aside.mk he
          clear he
          go_enter Tryd.func23, Tryd.ntmps23
          go_wp2_with fail
          refine (NewReader_any s _).mono ?_
          rintro e w1 ⟨rfl, rfl⟩
          go_wp2_with fail
          refine HL.out.mono ?_
          rintro e w2 ⟨rfl, h3, h4⟩
          have U := Aside.mk h4
          have R2 := Aside.mk (h4.block_eq (k := w.heap.size) (by omega) R0.out)
          have B2 := Aside.mk (((Upd.of_below BA.out).trans (U.out.mono (fun k hk => by omega))).below (Nat.le_refl _))
          have LW := Aside.mk (blk_lt R2.out)
          clear h3 h4 HL BA R0 U
          go_wp2_with fail
          refine (NewReader_any _ _).mono ?_
          rintro e w3 ⟨rfl, rfl⟩
          go_wp2_with fail
          have I3 := Aside.mk (show InS _ (w2.heap.size + 1) w2.heap.size q from by rw [EQ.out]; exact (InS.new w2 (s.extract 2 (n + 2)) ES.out).alloc (.cells zeroD.cells.toArray 34))
          have hm := blk_new ((w2.alloc (.cells #[.string (s.extract 2 (n + 2)), .int .i64 0, .int .i64 0] 105)).alloc (.cells #[.pointer (some ⟨w2.heap.size, 0, none⟩), .bool false, .bool false, .bool false] 80)) (.cells zeroD.cells.toArray 34)
          simp only [World.size_alloc] at hm
          have hbd := body_in zeroD I3.out hm (by omega) (by omega)
          have U0 := Aside.mk (show Upd (fun k => w2.heap.size ≤ k) w2 (((w2.alloc (.cells #[.string (s.extract 2 (n + 2)), .int .i64 0, .int .i64 0] 105)).alloc (.cells #[.pointer (some ⟨w2.heap.size, 0, none⟩), .bool false, .bool false, .bool false] 80)).alloc (.cells zeroD.cells.toArray 34)) from (((Upd.refl _ w2).alloc _).alloc _).alloc _)
          rw [ZD.out] at hbd U0
          refine hbd.mono ?_
          rintro e w4 ⟨rfl, h6, h7, h8⟩
          have I4 := Aside.mk h6
          have M4 := Aside.mk h7
          have U4 := Aside.mk (U0.out.trans (h8.mono (fun k hk => by omega)))
          clear hm hbd I3 U0 h6 h7 h8
          go_wp2_with fail
          refine (Ifinish_any I4.out).mono ?_
          rintro e w5 ⟨rfl, h6, h7⟩
          have I5 := Aside.mk h6
          have M5 := Aside.mk (h7.block_eq (k := w2.heap.size + 1 + 1) (by omega) M4.out)
          have U5 := Aside.mk (U4.out.trans (h7.mono (fun k hk => by omega)))
          have R5 := Aside.mk (U5.out.block_eq (k := w.heap.size) (by have := LW.out; omega) R2.out)
          have B5 := Aside.mk (B2.out.trans (U5.out.below (Nat.le_refl _) |>.mono (by have := LW.out; omega)))
          clear h6 h7 I4 M4 U4
          go_wp2_with fail
          have HErr := Ierr_any I5.out
          rw [HE.out] at HErr
          refine HErr.mono ?_
          rintro e w6 ⟨rfl, rfl⟩
          clear HErr
          have hcs := HCS.out
          rw [← hcs] at M5
          have L10 := Aside.mk (show cs.toArray.size = 10 by rw [hcs]; rfl)
          have O10 := Aside.mk (show cs.toArray.all (·.oneCell') = true by rw [hcs]; simp [DirV.cells, Value.oneCell'])
          have I10 := Aside.mk (show (Tryd.prog.info? 34).map (·.size) = some cs.toArray.size by rw [L10.out]; kernel_rfl)
          have S10 : Aside ((#[.int .i64 0, .int .i64 0, .int .i64 0, .int .i64 0, .int .i64 0, .int .i64 0, .string ⟨#[]⟩, .string ⟨#[]⟩, .string ⟨#[]⟩, .string ⟨#[]⟩] : Array Value).size = cs.toArray.size) := ⟨by rw [L10.out]; first | done | rfl⟩
          clear hcs
          go_wp2_with (first | (with_reducible refine wpList_load_row rfl 34 (.tmp 9) rfl (w2.heap.size + 1 + 1) rfl 34 _ (0, 0) _ M5.out Tryd.underlying34 rfl I10.out ?_) | (with_reducible refine wpList_store_row rfl 34 (.tmp 2) (.tmp 50) rfl w.heap.size _ rfl rfl 34 _ R5.out I10.out S10.out O10.out ?_))
          have RR := setRow_heap w5 w.heap.size _ cs.toArray _ _ R5.out
          refine bodyPost_ret (results_cell_tmp2_row (p := 2) (u := 3) (v := 4) (ty := 34) rfl _ _ w.heap.size _ _ _ _ rfl RR Tryd.underlying34 rfl I10.out) rfl ?_
          exact ⟨rfl, below_row B5.out (Nat.le_refl _) _⟩
        · rw [if_neg (by rw [he]; decide), he, ZD.out]
          have HE := Aside.mk he
          clear he
          go_enter Tryd.func23, Tryd.ntmps23
          go_wp2_with fail
          refine (NewReader_any s _).mono ?_
          rintro e w1 ⟨rfl, rfl⟩
          go_wp2_with fail
          refine HL.out.mono ?_
          rintro e w2 ⟨rfl, h3, h4⟩
          have U := Aside.mk h4
          have R2 := Aside.mk (h4.block_eq (k := w.heap.size) (by omega) R0.out)
          have B2 := Aside.mk (((Upd.of_below BA.out).trans (U.out.mono (fun k hk => by omega))).below (Nat.le_refl _))
          have LW := Aside.mk (blk_lt R2.out)
          clear h3 h4 HL BA R0 U
          go_wp2_with fail
          refine (NewReader_any _ _).mono ?_
          rintro e w3 ⟨rfl, rfl⟩
          go_wp2_with fail
          have I3 := Aside.mk (show InS _ (w2.heap.size + 1) w2.heap.size q from by rw [EQ.out]; exact (InS.new w2 (s.extract 2 (n + 2)) ES.out).alloc (.cells zeroD.cells.toArray 34))
          have hm := blk_new ((w2.alloc (.cells #[.string (s.extract 2 (n + 2)), .int .i64 0, .int .i64 0] 105)).alloc (.cells #[.pointer (some ⟨w2.heap.size, 0, none⟩), .bool false, .bool false, .bool false] 80)) (.cells zeroD.cells.toArray 34)
          simp only [World.size_alloc] at hm
          have hbd := body_in zeroD I3.out hm (by omega) (by omega)
          have U0 := Aside.mk (show Upd (fun k => w2.heap.size ≤ k) w2 (((w2.alloc (.cells #[.string (s.extract 2 (n + 2)), .int .i64 0, .int .i64 0] 105)).alloc (.cells #[.pointer (some ⟨w2.heap.size, 0, none⟩), .bool false, .bool false, .bool false] 80)).alloc (.cells zeroD.cells.toArray 34)) from (((Upd.refl _ w2).alloc _).alloc _).alloc _)
          rw [ZD.out] at hbd U0
          refine hbd.mono ?_
          rintro e w4 ⟨rfl, h6, h7, h8⟩
          have I4 := Aside.mk h6
          have M4 := Aside.mk h7
          have U4 := Aside.mk (U0.out.trans (h8.mono (fun k hk => by omega)))
          clear hm hbd I3 U0 h6 h7 h8
          go_wp2_with fail
          refine (Ifinish_any I4.out).mono ?_
          rintro e w5 ⟨rfl, h6, h7⟩
          have I5 := Aside.mk h6
          have M5 := Aside.mk (h7.block_eq (k := w2.heap.size + 1 + 1) (by omega) M4.out)
          have U5 := Aside.mk (U4.out.trans (h7.mono (fun k hk => by omega)))
          have R5 := Aside.mk (U5.out.block_eq (k := w.heap.size) (by have := LW.out; omega) R2.out)
          have B5 := Aside.mk (B2.out.trans (U5.out.below (Nat.le_refl _) |>.mono (by have := LW.out; omega)))
          clear h6 h7 I4 M4 U4
          go_wp2_with fail
          have HErr := Ierr_any I5.out
          rw [HE.out] at HErr
          refine HErr.mono ?_
          rintro e w6 ⟨rfl, rfl⟩
          clear HErr
          go_wp2_with (with_reducible refine wpList_store_row rfl 34 (.tmp 2) (.tmp 48) rfl w.heap.size _ rfl rfl 34 _ R5.out (by as_aux_lemma => kernel_rfl) (by as_aux_lemma => kernel_rfl) (by as_aux_lemma => kernel_rfl) ?_)
          have RR := setRow_heap w5 w.heap.size _ #[.int .i64 0, .int .i64 0, .int .i64 0, .int .i64 0, .int .i64 0, .int .i64 0, .string ⟨#[]⟩, .string ⟨#[]⟩, .string ⟨#[]⟩, .string ⟨#[]⟩] _ _ R5.out
          refine bodyPost_ret (results_cell_tmp2_row (p := 2) (u := 3) (v := 4) (ty := 34) rfl _ _ w.heap.size _ _ _ _ rfl RR Tryd.underlying34 rfl (by as_aux_lemma => kernel_rfl)) rfl ?_
          exact ⟨rfl, below_row B5.out (Nat.le_refl _) _⟩
        · rw [if_neg (by rw [he]; decide), he, ZD.out]
          have HE := Aside.mk he
          clear he
          go_enter Tryd.func23, Tryd.ntmps23
          go_wp2_with fail
          refine (NewReader_any s _).mono ?_
          rintro e w1 ⟨rfl, rfl⟩
          go_wp2_with fail
          refine HL.out.mono ?_
          rintro e w2 ⟨rfl, h3, h4⟩
          have U := Aside.mk h4
          have R2 := Aside.mk (h4.block_eq (k := w.heap.size) (by omega) R0.out)
          have B2 := Aside.mk (((Upd.of_below BA.out).trans (U.out.mono (fun k hk => by omega))).below (Nat.le_refl _))
          have LW := Aside.mk (blk_lt R2.out)
          clear h3 h4 HL BA R0 U
          go_wp2_with fail
          refine (NewReader_any _ _).mono ?_
          rintro e w3 ⟨rfl, rfl⟩
          go_wp2_with fail
          have I3 := Aside.mk (show InS _ (w2.heap.size + 1) w2.heap.size q from by rw [EQ.out]; exact (InS.new w2 (s.extract 2 (n + 2)) ES.out).alloc (.cells zeroD.cells.toArray 34))
          have hm := blk_new ((w2.alloc (.cells #[.string (s.extract 2 (n + 2)), .int .i64 0, .int .i64 0] 105)).alloc (.cells #[.pointer (some ⟨w2.heap.size, 0, none⟩), .bool false, .bool false, .bool false] 80)) (.cells zeroD.cells.toArray 34)
          simp only [World.size_alloc] at hm
          have hbd := body_in zeroD I3.out hm (by omega) (by omega)
          have U0 := Aside.mk (show Upd (fun k => w2.heap.size ≤ k) w2 (((w2.alloc (.cells #[.string (s.extract 2 (n + 2)), .int .i64 0, .int .i64 0] 105)).alloc (.cells #[.pointer (some ⟨w2.heap.size, 0, none⟩), .bool false, .bool false, .bool false] 80)).alloc (.cells zeroD.cells.toArray 34)) from (((Upd.refl _ w2).alloc _).alloc _).alloc _)
          rw [ZD.out] at hbd U0
          refine hbd.mono ?_
          rintro e w4 ⟨rfl, h6, h7, h8⟩
          have I4 := Aside.mk h6
          have M4 := Aside.mk h7
          have U4 := Aside.mk (U0.out.trans (h8.mono (fun k hk => by omega)))
          clear hm hbd I3 U0 h6 h7 h8
          go_wp2_with fail
          refine (Ifinish_any I4.out).mono ?_
          rintro e w5 ⟨rfl, h6, h7⟩
          have I5 := Aside.mk h6
          have M5 := Aside.mk (h7.block_eq (k := w2.heap.size + 1 + 1) (by omega) M4.out)
          have U5 := Aside.mk (U4.out.trans (h7.mono (fun k hk => by omega)))
          have R5 := Aside.mk (U5.out.block_eq (k := w.heap.size) (by have := LW.out; omega) R2.out)
          have B5 := Aside.mk (B2.out.trans (U5.out.below (Nat.le_refl _) |>.mono (by have := LW.out; omega)))
          clear h6 h7 I4 M4 U4
          go_wp2_with fail
          have HErr := Ierr_any I5.out
          rw [HE.out] at HErr
          refine HErr.mono ?_
          rintro e w6 ⟨rfl, rfl⟩
          clear HErr
          go_wp2_with (with_reducible refine wpList_store_row rfl 34 (.tmp 2) (.tmp 48) rfl w.heap.size _ rfl rfl 34 _ R5.out (by as_aux_lemma => kernel_rfl) (by as_aux_lemma => kernel_rfl) (by as_aux_lemma => kernel_rfl) ?_)
          have RR := setRow_heap w5 w.heap.size _ #[.int .i64 0, .int .i64 0, .int .i64 0, .int .i64 0, .int .i64 0, .int .i64 0, .string ⟨#[]⟩, .string ⟨#[]⟩, .string ⟨#[]⟩, .string ⟨#[]⟩] _ _ R5.out
          refine bodyPost_ret (results_cell_tmp2_row (p := 2) (u := 3) (v := 4) (ty := 34) rfl _ _ w.heap.size _ _ _ _ rfl RR Tryd.underlying34 rfl (by as_aux_lemma => kernel_rfl)) rfl ?_
          exact ⟨rfl, below_row B5.out (Nat.le_refl _) _⟩
        · rw [if_neg (by rw [he]; decide), he, ZD.out]
          have HE := Aside.mk he
          clear he
          go_enter Tryd.func23, Tryd.ntmps23
          go_wp2_with fail
          refine (NewReader_any s _).mono ?_
          rintro e w1 ⟨rfl, rfl⟩
          go_wp2_with fail
          refine HL.out.mono ?_
          rintro e w2 ⟨rfl, h3, h4⟩
          have U := Aside.mk h4
          have R2 := Aside.mk (h4.block_eq (k := w.heap.size) (by omega) R0.out)
          have B2 := Aside.mk (((Upd.of_below BA.out).trans (U.out.mono (fun k hk => by omega))).below (Nat.le_refl _))
          have LW := Aside.mk (blk_lt R2.out)
          clear h3 h4 HL BA R0 U
          go_wp2_with fail
          refine (NewReader_any _ _).mono ?_
          rintro e w3 ⟨rfl, rfl⟩
          go_wp2_with fail
          have I3 := Aside.mk (show InS _ (w2.heap.size + 1) w2.heap.size q from by rw [EQ.out]; exact (InS.new w2 (s.extract 2 (n + 2)) ES.out).alloc (.cells zeroD.cells.toArray 34))
          have hm := blk_new ((w2.alloc (.cells #[.string (s.extract 2 (n + 2)), .int .i64 0, .int .i64 0] 105)).alloc (.cells #[.pointer (some ⟨w2.heap.size, 0, none⟩), .bool false, .bool false, .bool false] 80)) (.cells zeroD.cells.toArray 34)
          simp only [World.size_alloc] at hm
          have hbd := body_in zeroD I3.out hm (by omega) (by omega)
          have U0 := Aside.mk (show Upd (fun k => w2.heap.size ≤ k) w2 (((w2.alloc (.cells #[.string (s.extract 2 (n + 2)), .int .i64 0, .int .i64 0] 105)).alloc (.cells #[.pointer (some ⟨w2.heap.size, 0, none⟩), .bool false, .bool false, .bool false] 80)).alloc (.cells zeroD.cells.toArray 34)) from (((Upd.refl _ w2).alloc _).alloc _).alloc _)
          rw [ZD.out] at hbd U0
          refine hbd.mono ?_
          rintro e w4 ⟨rfl, h6, h7, h8⟩
          have I4 := Aside.mk h6
          have M4 := Aside.mk h7
          have U4 := Aside.mk (U0.out.trans (h8.mono (fun k hk => by omega)))
          clear hm hbd I3 U0 h6 h7 h8
          go_wp2_with fail
          refine (Ifinish_any I4.out).mono ?_
          rintro e w5 ⟨rfl, h6, h7⟩
          have I5 := Aside.mk h6
          have M5 := Aside.mk (h7.block_eq (k := w2.heap.size + 1 + 1) (by omega) M4.out)
          have U5 := Aside.mk (U4.out.trans (h7.mono (fun k hk => by omega)))
          have R5 := Aside.mk (U5.out.block_eq (k := w.heap.size) (by have := LW.out; omega) R2.out)
          have B5 := Aside.mk (B2.out.trans (U5.out.below (Nat.le_refl _) |>.mono (by have := LW.out; omega)))
          clear h6 h7 I4 M4 U4
          go_wp2_with fail
          have HErr := Ierr_any I5.out
          rw [HE.out] at HErr
          refine HErr.mono ?_
          rintro e w6 ⟨rfl, rfl⟩
          clear HErr
          go_wp2_with (with_reducible refine wpList_store_row rfl 34 (.tmp 2) (.tmp 48) rfl w.heap.size _ rfl rfl 34 _ R5.out (by as_aux_lemma => kernel_rfl) (by as_aux_lemma => kernel_rfl) (by as_aux_lemma => kernel_rfl) ?_)
          have RR := setRow_heap w5 w.heap.size _ #[.int .i64 0, .int .i64 0, .int .i64 0, .int .i64 0, .int .i64 0, .int .i64 0, .string ⟨#[]⟩, .string ⟨#[]⟩, .string ⟨#[]⟩, .string ⟨#[]⟩] _ _ R5.out
          refine bodyPost_ret (results_cell_tmp2_row (p := 2) (u := 3) (v := 4) (ty := 34) rfl _ _ w.heap.size _ _ _ _ rfl RR Tryd.underlying34 rfl (by as_aux_lemma => kernel_rfl)) rfl ?_
          exact ⟨rfl, below_row B5.out (Nat.le_refl _) _⟩
/-- The form that printed texts call. -/
def dirT (d : DirV) (n e : Int) : Int × Int × Int × Int × Int × Int × ByteArray × ByteArray × ByteArray × ByteArray × Int × Int := (d.kind, d.vers, d.path, d.mode, d.time, d.length, d.name, d.owner, d.group, d.last, n, e)
def styx_DecodeDir.f (a0 : ByteArray) : Option (Int × Int × Int × Int × Int × Int × ByteArray × ByteArray × ByteArray × ByteArray × Int × Int) :=
  if a0.size ≤ 1000000000 then some (dirT (decF a0).1 (decF a0).2.1 (decF a0).2.2) else none
theorem styx_DecodeDir.calls (a0 : ByteArray) (r1 r2 r3 r4 r5 r6 : Int) (r7 r8 r9 r10 : ByteArray) (r11 r12 : Int) (w : World) (h : styx_DecodeDir.f a0 = some (r1, r2, r3, r4, r5, r6, r7, r8, r9, r10, r11, r12)) :
    Calls Tryd.prog 23 #[.string a0] w fun e w' => e = .returned (.tuple #[.agg #[.int .i64 r1, .int .i64 r2, .int .i64 r3, .int .i64 r4, .int .i64 r5, .int .i64 r6, .string r7, .string r8, .string r9, .string r10], .int .i64 r11, .int .i64 r12]) ∧ Below w.heap.size w w' := by
  unfold styx_DecodeDir.f at h
  split at h
  · rename_i hs
    have h1 := DecodeDir_any a0 hs w
    simp only [Option.some.injEq, dirT, Prod.mk.injEq] at h
    obtain ⟨rfl, rfl, rfl, rfl, rfl, rfl, rfl, rfl, rfl, rfl, rfl, rfl⟩ := h
    exact h1
  · cases h
end Go.Proofs.YtflofpnagfoeeaaDoor
