/- Arguments of the laws of layer 31, opened: a slice of Dirs; the table that the row lists. -/
import Derived.Test.YtflofpnagfoeeaaDoorStFew
import Derived.Test.YtflofpnagfoeeaaDoorStWords
import Derived.Deep.Slices
import Derived.Deep.Fields
import Derived.ChangeSame
import Derived.ProofKit
import Derived.OpenShut
import Derived.ShutString
import Derived.ChangeOld
import Derived.SizedLaws
import Derived.LaidMore
import Derived.Stop.Joined
import Derived.Maps.OwnSet
import Derived.Carry
set_option linter.unusedSimpArgs false
set_option linter.unusedVariables false
namespace Go.Proofs.YtflofpnagfoeeaaDoor
open Go.RowKit Go.Proofs.YtflofpnagfoeeaaDoor.Q
open Go.Proofs.YtflofpnagfoeeaaDoorW.PrintWords (Kd)
open Go.Maps

theorem own : ownKnob Tryd.prog.godebug = none := by kernel_rfl
theorem laidOut : laidOutB Tryd.prog = true := by kernel_rfl
theorem k3 : Tryd.prog.cellsOf 3 = 1 := by kernel_rfl
theorem k2 : Tryd.prog.cellsOf 2 = 1 := by kernel_rfl
theorem k9 : Tryd.prog.cellsOf 9 = 1 := by kernel_rfl
theorem kQ : Tryd.prog.cellsOf 32 = 3 := by kernel_rfl
theorem kD : Tryd.prog.cellsOf 34 = 10 := by kernel_rfl
theorem i64_wf {n : Int} (h : (Lit.int .i64 n).wf = true) : -9223372036854775808 ≤ n ∧ n < 9223372036854775808 := by
  simp [Lit.wf, IntKind.min, IntKind.max, IntKind.signed, IntKind.bits] at h
  omega
theorem weightsAll_mem {H : Type} {P : Program} {e : TypeId} : ∀ {l : List (DataW H)} {d : DataW H}, d ∈ l → ∀ n ∈ d.weights P e, n ∈ DataW.weightsAll P e l
  | a :: r, d, hd, n, hn => by
    simp only [DataW.weightsAll, List.mem_append]
    rcases List.mem_cons.1 hd with rfl | hd
    · exact .inl hn
    · exact .inr (weightsAll_mem hd n hn)
section
variable {H : Type} {enc : TypeId × Value → H} {w : World} {base : Nat} {spare : Nat → Bool} {held : Bool}
theorem one_int {n : Nat} {v : Value} {y : DataW H × List MemPlace} {t : TypeId} (ht : Tryd.prog.underlying t = some (.int .i64)) (h : DataW.trod enc Tryd.prog w base spare held n t [v] = some y) :
    ∃ a : Int, v = .int .i64 a ∧ y = (.lit (.int .i64 a), []) ∧ (Lit.int .i64 a).wf = true := by
  obtain ⟨a, ha, rfl, wa⟩ := DataW.trod_int ht h
  exact ⟨a, by simpa using ha, rfl, wa⟩
theorem one_str {n : Nat} {v : Value} {y : DataW H × List MemPlace} (h : DataW.trod enc Tryd.prog w base spare held n 9 [v] = some y) :
    ∃ s : ByteArray, v = .string s ∧ y = (.lit (.string s.data.toList), []) := by
  obtain ⟨a, ha, rfl, wa⟩ := DataW.trod_string Tryd.underlying9 h
  exact ⟨a, by simpa using ha, rfl⟩
set_option maxRecDepth 100000 in
theorem open_qid {fuel : Nat} {cs : List Value} {x : DataW H × List MemPlace} (h : DataW.trod enc Tryd.prog w base spare held fuel 32 cs = some x) :
    ∃ a b c : Int, cs = [.int .i64 a, .int .i64 b, .int .i64 c] ∧ x.1 = .agg [.lit (.int .i64 a), .lit (.int .i64 b), .lit (.int .i64 c)] ∧ (Lit.int .i64 c).wf = true := by
  obtain ⟨xs, n, rfl, rfl, hl, hxl, hf⟩ := DataW.trod_struct Tryd.underlying32 h
  rw [kQ] at hl
  match cs, hl, xs, hxl, hf with
  | [v0, v1, v2], _, [y0, y1, y2], _, hf =>
    have f0 : DataW.trod enc Tryd.prog w base spare held n 3 [v0] = some y0 := (congrArg (fun k => DataW.trod enc Tryd.prog w base spare held n 3 (([v0, v1, v2].drop 0).take k)) k3.symm).trans (hf 0 _ rfl)
    have f1 : DataW.trod enc Tryd.prog w base spare held n 3 [v1] = some y1 := (congrArg (fun k => DataW.trod enc Tryd.prog w base spare held n 3 (([v0, v1, v2].drop 1).take k)) k3.symm).trans (hf 1 _ rfl)
    have f2 : DataW.trod enc Tryd.prog w base spare held n 2 [v2] = some y2 := (congrArg (fun k => DataW.trod enc Tryd.prog w base spare held n 2 (([v0, v1, v2].drop 2).take k)) k2.symm).trans (hf 2 _ rfl)
    obtain ⟨a, rfl, rfl, _⟩ := one_int Tryd.underlying3 f0
    obtain ⟨b, rfl, rfl, _⟩ := one_int Tryd.underlying3 f1
    obtain ⟨c, rfl, rfl, wc⟩ := one_int Tryd.underlying2 f2
    exact ⟨a, b, c, rfl, rfl, wc⟩
/-- The datum of a Dir. -/
def dirData (d : DirV) : DataW H := .agg [.agg [.lit (.int .i64 d.kind), .lit (.int .i64 d.vers), .lit (.int .i64 d.path)], .lit (.int .i64 d.mode), .lit (.int .i64 d.time), .lit (.int .i64 d.length), .lit (.string d.name.data.toList), .lit (.string d.owner.data.toList), .lit (.string d.group.data.toList), .lit (.string d.last.data.toList)]
set_option maxRecDepth 100000 in
theorem open_dir {fuel : Nat} {cs : List Value} {x : DataW H × List MemPlace} (h : DataW.trod enc Tryd.prog w base spare held fuel 34 cs = some x) :
    ∃ d : DirV, cs = d.cells ∧ x.1 = dirData d ∧ ((∀ n ∈ x.1.weights Tryd.prog 34, n ≤ reachBytes) → d.Wf) := by
  obtain ⟨xs, n, rfl, rfl, hl, hxl, hf⟩ := DataW.trod_struct Tryd.underlying34 h
  rw [kD] at hl
  match cs, hl, xs, hxl, hf with
  | [v0, v1, v2, v3, v4, v5, v6, v7, v8, v9], _, [y0, y1, y2, y3, y4, y5, y6, y7], _, hf =>
    have f0 : DataW.trod enc Tryd.prog w base spare held n 32 [v0, v1, v2] = some y0 := (congrArg (fun k => DataW.trod enc Tryd.prog w base spare held n 32 (([v0, v1, v2, v3, v4, v5, v6, v7, v8, v9].drop 0).take k)) kQ.symm).trans (hf 0 _ rfl)
    have f1 : DataW.trod enc Tryd.prog w base spare held n 3 [v3] = some y1 := (congrArg (fun k => DataW.trod enc Tryd.prog w base spare held n 3 (([v0, v1, v2, v3, v4, v5, v6, v7, v8, v9].drop 3).take k)) k3.symm).trans (hf 1 _ rfl)
    have f2 : DataW.trod enc Tryd.prog w base spare held n 2 [v4] = some y2 := (congrArg (fun k => DataW.trod enc Tryd.prog w base spare held n 2 (([v0, v1, v2, v3, v4, v5, v6, v7, v8, v9].drop 4).take k)) k2.symm).trans (hf 2 _ rfl)
    have f3 : DataW.trod enc Tryd.prog w base spare held n 2 [v5] = some y3 := (congrArg (fun k => DataW.trod enc Tryd.prog w base spare held n 2 (([v0, v1, v2, v3, v4, v5, v6, v7, v8, v9].drop 5).take k)) k2.symm).trans (hf 3 _ rfl)
    have f4 : DataW.trod enc Tryd.prog w base spare held n 9 [v6] = some y4 := (congrArg (fun k => DataW.trod enc Tryd.prog w base spare held n 9 (([v0, v1, v2, v3, v4, v5, v6, v7, v8, v9].drop 6).take k)) k9.symm).trans (hf 4 _ rfl)
    have f5 : DataW.trod enc Tryd.prog w base spare held n 9 [v7] = some y5 := (congrArg (fun k => DataW.trod enc Tryd.prog w base spare held n 9 (([v0, v1, v2, v3, v4, v5, v6, v7, v8, v9].drop 7).take k)) k9.symm).trans (hf 5 _ rfl)
    have f6 : DataW.trod enc Tryd.prog w base spare held n 9 [v8] = some y6 := (congrArg (fun k => DataW.trod enc Tryd.prog w base spare held n 9 (([v0, v1, v2, v3, v4, v5, v6, v7, v8, v9].drop 8).take k)) k9.symm).trans (hf 6 _ rfl)
    have f7 : DataW.trod enc Tryd.prog w base spare held n 9 [v9] = some y7 := (congrArg (fun k => DataW.trod enc Tryd.prog w base spare held n 9 (([v0, v1, v2, v3, v4, v5, v6, v7, v8, v9].drop 9).take k)) k9.symm).trans (hf 7 _ rfl)
    obtain ⟨a0, a1, a2, e0, q0, wc⟩ := open_qid f0
    simp only [List.cons.injEq, and_true] at e0
    obtain ⟨rfl, rfl, rfl⟩ := e0
    obtain ⟨a3, rfl, rfl, _⟩ := one_int Tryd.underlying3 f1
    obtain ⟨a4, rfl, rfl, w4⟩ := one_int Tryd.underlying2 f2
    obtain ⟨a5, rfl, rfl, w5⟩ := one_int Tryd.underlying2 f3
    obtain ⟨a6, rfl, rfl⟩ := one_str f4
    obtain ⟨a7, rfl, rfl⟩ := one_str f5
    obtain ⟨a8, rfl, rfl⟩ := one_str f6
    obtain ⟨a9, rfl, rfl⟩ := one_str f7
    obtain ⟨y01, y02⟩ := y0
    simp only at q0
    subst q0
    refine ⟨⟨a0, a1, a2, a3, a4, a5, a6, a7, a8, a9⟩, rfl, rfl, fun hz => ?_⟩
    have hz' : ∀ s ∈ [a6, a7, a8, a9], s.size ≤ reachBytes := by
      intro s hs
      have h1 := hz s.data.toList.length (by
        simp only [DataW.weights, Tryd.underlying34, Tryd.underlying32, List.map_cons, List.map_nil, DataW.weightsEach, List.nil_append, List.append_nil, List.mem_append, List.mem_singleton]
        simp only [List.mem_cons, List.not_mem_nil, or_false] at hs
        rcases hs with rfl | rfl | rfl | rfl <;> simp)
      rw [Array.length_toList] at h1
      exact h1
    have hr : reachBytes ≤ 140737488355328 := by decide
    have g6 := hz' a6 (by simp)
    have g7 := hz' a7 (by simp)
    have g8 := hz' a8 (by simp)
    have g9 := hz' a9 (by simp)
    have b2 := i64_wf wc
    have b4 := i64_wf w4
    have b5 := i64_wf w5
    exact ⟨b2.1, b2.2, b4.1, b4.2, b5.1, b5.2, Nat.le_trans g6 hr, Nat.le_trans g7 hr, Nat.le_trans g8 hr, Nat.le_trans g9 hr⟩
def ofD (d : DirV) : S34 := ⟨⟨d.kind, d.vers, d.path⟩, d.mode, d.time, d.length, d.name, d.owner, d.group, d.last⟩
theorem toD_ofD (d : DirV) : toD (ofD d) = d := rfl
set_option maxRecDepth 100000 in
theorem open_dirs {fuel : Nat} {cs : List Value} {x : DataW H × List MemPlace} (h : DataW.trod enc Tryd.prog w base spare held fuel 22 cs = some x) (hz : ∀ n ∈ x.1.weights Tryd.prog 22, n ≤ reachBytes) :
    ∃ (A : Option Addr) (cap : Nat) (l : List S34), cs = [.slice A l.length cap] ∧ l.length ≤ cap ∧ cap ≤ maxLen ∧ Kd.C k34 w A l.length l ∧ ∀ s ∈ l, (toD s).Wf := by
  rcases Go.Deep.open_slice Tryd.underlying22 h with ⟨rfl, rfl⟩ | ⟨a, len, cap, m, n, D, Pl, rfl, hb, hl, hm, hmm, hx, hi⟩
  · exact ⟨none, 0, [], rfl, Nat.le_refl _, Nat.zero_le _, ⟨rfl, by simp, fun h => absurd h (by simp)⟩, by simp⟩
  · have hlm : len ≤ m := by rw [hmm]; split <;> omega
    have hd : ∀ i, ∃ d : DirV, i < len → (∀ j u, d.cells[j]? = some u → w.cell? (a.add (i * 10 + j)) = some u) ∧ d.Wf := by
      intro i
      by_cases hlt : i < len
      · obtain ⟨cs', h1, h2⟩ := hi i (by omega)
        rw [kD] at h1
        obtain ⟨d, rfl, hD, hw⟩ := open_dir h2
        obtain ⟨_, hcl, hat⟩ := World.cells?_some h1
        refine ⟨d, fun _ => ⟨fun j u hj => ?_, hw (fun q hq => ?_)⟩⟩
        · have hj2 : j < 10 := by have := (List.getElem?_eq_some_iff.1 hj).1; omega
          have h3 := hat j hj2
          rw [hj] at h3
          rw [← Go.Deep.add_add, h3]
        · refine hz q ?_
          rw [hx]
          simp only [DataW.weights, Tryd.underlying22, List.mem_cons, List.mem_append]
          exact .inr (.inl (weightsAll_mem (d := D i) (List.mem_map.2 ⟨i, List.mem_range.2 hlt, rfl⟩) q hq))
      · exact ⟨⟨0, 0, 0, 0, 0, 0, ⟨#[]⟩, ⟨#[]⟩, ⟨#[]⟩, ⟨#[]⟩⟩, fun h => absurd h hlt⟩
    obtain ⟨f, hf⟩ := Classical.axiomOfChoice hd
    have hll : ((List.range len).map fun i => ofD (f i)).length = len := by simp
    refine ⟨some a, cap, (List.range len).map fun i => ofD (f i), by rw [hll], by rw [hll]; exact hl, hm, ?_, ?_⟩
    · rw [hll]
      refine ⟨hll, by simp only [maxLen] at hm; omega, fun _ => ⟨a, rfl, fun j p hj => ?_⟩⟩
      have hj2 : j < len := by have := (List.getElem?_eq_some_iff.1 hj).1; omega
      obtain rfl : p = ofD (f j) := by
        rw [List.getElem?_map, List.getElem?_range hj2] at hj
        simpa using hj.symm
      refine ⟨(f j).cells, rfl, k34_mk w (ofD (f j)), fun i u hu => ?_⟩
      exact (hf j hj2).1 i u hu
    · intro s hs
      obtain ⟨i, hi2, rfl⟩ := List.mem_map.1 hs
      rw [toD_ofD]
      exact (hf i (List.mem_range.1 hi2)).2
end

theorem gWords : Tryd.prog.globalNamed "acheron/styx.words" = some 0 := by kernel_rfl
theorem tWords : (Tryd.prog.globals[0]?).map (·.type) = some 118 := by kernel_rfl
set_option maxRecDepth 100000 in
/-- What the row lists gives the walks. -/
theorem words_in {W : World} (h : laidMetH Tryd.prog [("acheron/styx.words", Rows.laid_acheron_styx_words)] W) : WordsIn W.heap.size W := by
  rw [MakeChecks.laidMetH_plain _ _ _ (by kernel_rfl)] at h
  obtain ⟨ps, ⟨g0, t0, cs0, f0, p0, q0, hg0, ht0, hv0, hd0, _, _⟩, _, _⟩ := h
  obtain rfl := Option.some.inj (gWords.symm.trans hg0)
  obtain rfl := Option.some.inj (tWords.symm.trans ht0)
  rcases WideElems.open_map Tryd.underlying118 hd0 with ⟨_, hx⟩ | ⟨bm, es, clock, m, rfl, hcs, hb, _, F, hx⟩
  · simp [Rows.laid_acheron_styx_words] at hx
  simp only [Prod.mk.injEq] at hx
  have hcell : W.cell? ⟨0, 0, none⟩ = some (.map (some bm)) := by
    have := World.var?_cell hg0 hv0 0
    rw [Array.eq_one_of_toList hcs] at this
    simpa using this
  have hown := World.ownsMap_of_fit (R := plainElem Tryd.prog 9) hb F (fun x _ z hz => elemAt_plainElem_string Tryd.underlying9 hz)
  rw [← hx.1] at hown
  refine ⟨?_, Nat.le_refl _, bm, es.size, ?_, hcell, hown⟩
  · have := World.block_lt_of_cell? _ _ hcell
    omega
  · exact (Array.getElem?_eq_some_iff.1 hb).1
set_option maxRecDepth 100000 in
/-- The door's own heap meets the condition. -/
theorem door_met (os : Os) (args : Array Value) : laidMetH Tryd.prog [("acheron/styx.words", Rows.laid_acheron_styx_words)] ((World.doorLaid Tryd.prog 79 os).forCall (fun _ _ => 0) ⟨#[], args, []⟩).memory :=
  laidMetH_of_parts3 (fuel := 8) (laidMet_of_run' 8 (by kernel_rfl) (by kernel_rfl)) (by kernel_rfl) (by kernel_rfl)
end Go.Proofs.YtflofpnagfoeeaaDoor
