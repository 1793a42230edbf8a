/- Words of this proof: what a call may have written (Upd), and a writer of bytes in memory (Wr). No program in it. -/
import Derived.WalkKit
import Derived.WalkSpells
import Derived.WalkLawsBesides
import Derived.Deep.AppendLies
import Derived.Lib.AppendStr
import Derived.Lib.ConvBytes
import Derived.Laws.BytesArg
namespace Go.Proofs.YtflofpnagfoeeaaDoor
open Go.RowKit

/-- Blocks that are not in F are as they were; the streams are as they were; no block has gone. -/
structure Upd (F : Nat → Prop) (w w' : World) : Prop where
  os : w'.os = w.os
  tape : w'.tape = w.tape
  output : w'.output = w.output
  size : w.heap.size ≤ w'.heap.size
  block : ∀ k, k < w.heap.size → ¬ F k → w'.heap[k]? = w.heap[k]?

theorem Upd.refl (F : Nat → Prop) (w : World) : Upd F w w := ⟨rfl, rfl, rfl, Nat.le_refl _, fun _ _ _ => rfl⟩
theorem Upd.trans {F : Nat → Prop} {a b c : World} (h : Upd F a b) (k : Upd F b c) : Upd F a c :=
  ⟨k.os.trans h.os, k.tape.trans h.tape, k.output.trans h.output, Nat.le_trans h.size k.size, fun i hi hF => (k.block i (Nat.lt_of_lt_of_le hi h.size) hF).trans (h.block i hi hF)⟩
theorem Upd.mono {F F' : Nat → Prop} {a b : World} (h : Upd F a b) (hF : ∀ k, F k → F' k) : Upd F' a b :=
  ⟨h.os, h.tape, h.output, h.size, fun i hi hn => h.block i hi (fun hk => hn (hF i hk))⟩
theorem Upd.mono' {F F' : Nat → Prop} {a b : World} (h : Upd F a b) (hF : ∀ k, k < a.heap.size → F k → F' k) : Upd F' a b :=
  ⟨h.os, h.tape, h.output, h.size, fun i hi hn => h.block i hi (fun hk => hn (hF i hi hk))⟩
theorem Upd.drew {F : Nat → Prop} {a w : World} (h : Upd F a w) : Upd F a w.drew := ⟨h.os, h.tape, h.output, h.size, h.block⟩
theorem Upd.drewN {F : Nat → Prop} {a w : World} (h : Upd F a w) (n : Nat) : Upd F a (w.drewN n) := ⟨h.os, h.tape, h.output, h.size, h.block⟩
theorem Upd.alloc {F : Nat → Prop} {a w : World} (h : Upd F a w) (o : Obj) : Upd F a (w.alloc o) :=
  h.trans ⟨rfl, rfl, rfl, by simp, fun k hk _ => Below.heap_alloc _ _ _ hk⟩
theorem Upd.setCell {F : Nat → Prop} {a w : World} (h : Upd F a w) {p : Addr} (hp : F p.block) (u : Value) : Upd F a (w.setCell p u) :=
  h.trans ⟨rfl, rfl, rfl, by simp [World.setCell], fun k _ hn => Below.heap_setCell _ _ _ _ (fun e => hn (e ▸ hp))⟩
theorem Upd.grown {F : Nat → Prop} {a w w' : World} {row : Option Nat} (h : Upd F a w) (hg : w.grownBy w' row) (hr : ∀ k, row = some k → F k) : Upd F a w' :=
  h.trans ⟨hg.os, hg.tape, hg.output, hg.size, fun k hk hn => hg.block k hk (fun e => hn (hr k e.symm))⟩
theorem Upd.cell {F : Nat → Prop} {w w' : World} (h : Upd F w w') {p : Addr} (hp : ¬ F p.block) {v : Value} (hc : w.cell? p = some v) : w'.cell? p = some v :=
  (World.cell?_of_block (w := w) (h.block p.block (World.block_lt_of_cell? w p hc) hp)).trans hc
theorem Upd.below {B : Nat} {w w' : World} (h : Upd (fun k => B ≤ k) w w') (hB : B ≤ w.heap.size) : Below B w w' :=
  ⟨h.os, h.tape, h.output, h.size, fun k hk => h.block k (by omega) (by omega)⟩
theorem Upd.of_below {B : Nat} {w w' : World} (h : Below B w w') : Upd (fun k => B ≤ k) w w' :=
  ⟨h.os, h.tape, h.output, h.size, fun k _ hn => h.block k (by omega)⟩
theorem Upd.of_fresh {F : Nat → Prop} {w w' : World} (h : Below w.heap.size w w') : Upd F w w' :=
  ⟨h.os, h.tape, h.output, h.size, fun k hk _ => h.block k hk⟩
theorem Upd.block_eq {F : Nat → Prop} {w w' : World} (h : Upd F w w') {k : Nat} (hn : ¬ F k) {o : Obj} (ho : w.heap[k]? = some o) : w'.heap[k]? = some o :=
  (h.block k (Array.getElem?_eq_some_iff.1 ho).1 hn).trans ho

/-- Numbers as values. -/
def u8s (xs : List Int) : List Value := xs.map fun x => .int .u8 x
@[simp] theorem u8s_length (xs : List Int) : (u8s xs).length = xs.length := by simp [u8s]
@[simp] theorem u8s_append (xs ys : List Int) : u8s (xs ++ ys) = u8s xs ++ u8s ys := by simp [u8s]
/-- The bytes of a string as numbers. -/
def byts (s : ByteArray) : List Int := s.data.toList.map fun b => (b.toNat : Int)
@[simp] theorem byts_length (s : ByteArray) : (byts s).length = s.size := by rw [byts, List.length_map, Array.length_toList]; rfl

/-- A fact that the walk's simp doesn't look into. -/
structure Aside (p : Prop) : Prop where mk :: (out : p)

/-- The block g holds the cells cs, of type T; the first one is a slice of bytes xs; g and the slice's own row are in F, as is whatever is made from now on. -/
structure Wr (F : Nat → Prop) (w : World) (g : Nat) (T : TypeId) (v : Value) (more : List Value) (xs : List Int) : Prop where
  cells : w.heap[g]? = some (.cells (v :: more).toArray T (0, 0))
  row : w.ownsRow 0 5 1 v xs.length (u8s xs)
  here : F g
  own : ∀ k, v.ownBlock = some k → F k
  new : ∀ k, w.heap.size ≤ k → F k
  ne : T ≠ 5

theorem blk_cell {w : World} {g : Nat} {t : TypeId} {cs : Array Value} {fr : Nat × Nat} (h : w.heap[g]? = some (.cells cs t fr)) (i : Nat) : w.cell? ⟨g, i, none⟩ = cs[i]? := by
  simp [World.cell?, h]
theorem blk_frozen {w : World} {g : Nat} {t : TypeId} {cs : Array Value} (h : w.heap[g]? = some (.cells cs t (0, 0))) (i : Nat) : w.frozen? ⟨g, i, none⟩ = false := by simp [World.frozen?, h]
theorem blk_lt {w : World} {g : Nat} {o : Obj} (h : w.heap[g]? = some o) : g < w.heap.size := (Array.getElem?_eq_some_iff.1 h).1
theorem blk_set {w : World} {g : Nat} {t : TypeId} {cs : Array Value} (h : w.heap[g]? = some (.cells cs t (0, 0))) (i : Nat) (u : Value) : (w.setCell ⟨g, i, none⟩ u).heap[g]? = some (.cells (cs.setIfInBounds i u) t (0, 0)) := by
  simp [World.setCell, Array.getElem?_modify, h]
theorem blk_alloc {w : World} {g : Nat} {o o' : Obj} (h : w.heap[g]? = some o) : (w.alloc o').heap[g]? = some o := (Below.heap_alloc w o' g (blk_lt h)).trans h
theorem own_ne {w : World} {base : Nat} {e t : TypeId} {size n g : Nat} {v : Value} {xs : List Value} {cs : Array Value} {fr : Nat × Nat} (h : w.ownsRow base e size v n xs) (hg : w.heap[g]? = some (.cells cs t fr)) (hne : t ≠ e) : some g ≠ v.ownBlock := by
  intro hv
  rcases h.2 with ⟨rfl, _⟩ | ⟨g', cap, cur, rfl, _, hc, _⟩
  · cases hv
  · simp only [Value.ownBlock, Option.some.injEq] at hv
    subst hv
    rw [hg] at hc
    simp only [Option.some.injEq, Obj.cells.injEq] at hc
    exact hne hc.2.1
theorem own_lt {w : World} {base : Nat} {e : TypeId} {size n : Nat} {v : Value} {xs : List Value} (h : w.ownsRow base e size v n xs) {k : Nat} (hk : v.ownBlock = some k) : k < w.heap.size := by
  rcases h.2 with ⟨rfl, _⟩ | ⟨g', cap, cur, rfl, _, hc, _⟩
  · cases hk
  · simp only [Value.ownBlock, Option.some.injEq] at hk
    subst hk
    exact (Array.getElem?_eq_some_iff.1 hc).1
theorem own_move {w w1 : World} {base : Nat} {e : TypeId} {size n : Nat} {v : Value} {xs : List Value} (h : w.ownsRow base e size v n xs) (hm : ∀ k, v.ownBlock = some k → w1.heap[k]? = w.heap[k]?) : w1.ownsRow base e size v n xs := by
  refine ⟨h.1, ?_⟩
  rcases h.2 with h0 | ⟨g', cap, cur, rfl, hb, hc, h1⟩
  · exact .inl h0
  · exact .inr ⟨g', cap, cur, rfl, hb, (hm g' rfl).trans hc, h1⟩

section
variable {F : Nat → Prop} {w w1 : World} {g : Nat} {T : TypeId} {v : Value} {more : List Value} {xs : List Int}

/-- What else has been written does not touch it. -/
theorem Wr.keep (h : Wr F w g T v more xs) {F1 : Nat → Prop} (hu : Upd F1 w w1) (hd : ∀ k, F k → k < w.heap.size → ¬ F1 k) : Wr F w1 g T v more xs :=
  ⟨hu.block_eq (hd g h.here (blk_lt h.cells)) h.cells, own_move h.row (fun k hk => hu.block k (own_lt h.row hk) (hd k (h.own k hk) (own_lt h.row hk))), h.here, h.own, fun k hk => h.new k (Nat.le_trans hu.size hk), h.ne⟩
theorem Wr.fresh (h : Wr F w g T v more xs) (hu : Below w.heap.size w w1) : Wr F w1 g T v more xs :=
  h.keep (F1 := fun k => w.heap.size ≤ k) (Upd.of_below hu) (fun k _ hk => by omega)
theorem Wr.alloc (h : Wr F w g T v more xs) (o : Obj) : Wr F (w.alloc o) g T v more xs := h.fresh ((Below.refl _ _).alloc (Nat.le_refl _) _)
theorem Wr.drew (h : Wr F w g T v more xs) : Wr F w.drew g T v more xs := h.fresh (Below.refl _ _).drew
theorem Wr.drewN (h : Wr F w g T v more xs) (n : Nat) : Wr F (w.drewN n) g T v more xs := h.fresh ⟨rfl, rfl, rfl, Nat.le_refl _, fun _ _ => rfl⟩
theorem Wr.wide (h : Wr F w g T v more xs) {F1 : Nat → Prop} (hF : ∀ k, F k → F1 k) : Wr F1 w g T v more xs :=
  ⟨h.cells, h.row, hF _ h.here, fun k hk => hF _ (h.own k hk), fun k hk => hF _ (h.new k hk), h.ne⟩
/-- A new block that is kept out of its reach. -/
theorem Wr.away (h : Wr F w g T v more xs) (o : Obj) : Wr (fun k => F k ∧ k ≠ w.heap.size) (w.alloc o) g T v more xs := by
  have h' := h.alloc o
  refine ⟨h'.cells, h'.row, ⟨h.here, ?_⟩, fun k hk => ⟨h.own k hk, ?_⟩, fun k hk => ⟨h'.new k hk, ?_⟩, h.ne⟩
  · have := blk_lt h.cells; omega
  · have := own_lt h.row hk; omega
  · have : (w.alloc o).heap.size = w.heap.size + 1 := World.size_alloc ..
    omega
theorem Wr.cell0 (h : Wr F w g T v more xs) : w.cell? ⟨g, 0, none⟩ = some v := (blk_cell h.cells 0).trans rfl
theorem Wr.cellA (h : Wr F w g T v more xs) : ∀ o, (w.alloc o).cell? ⟨g, 0, none⟩ = some v := fun o => (h.alloc o).cell0
theorem Wr.frozen0 (h : Wr F w g T v more xs) (i : Nat) : w.frozen? ⟨g, i, none⟩ = false := blk_frozen h.cells i
theorem Wr.shape (h : Wr F w g T v more xs) : ∃ A1 c1, v = .slice A1 xs.length c1 := by
  rcases h.row.2 with ⟨rfl, h0⟩ | ⟨g1, c1, _, rfl, _⟩
  · exact ⟨none, 0, by rw [h0]⟩
  · exact ⟨_, _, rfl⟩
theorem Wr.convert {P : Program} (h : Wr F w g T v more xs) {src dst : TypeId} (hs : P.underlying src = some (.slice 5)) (he : P.underlying 5 = some (.int .u8)) (hd : P.underlying dst = some .string) :
    (convert src dst v).run P w = .ok (.string (strOfNums xs)) w := by
  rcases h.row.2 with ⟨rfl, h0⟩ | ⟨g1, c1, cur, rfl, _, hg, hnc, _, hcs, ht⟩
  · have hx : xs = [] := List.eq_nil_of_length_eq_zero h0
    subst hx
    exact run_convert_bytes_nil w src 5 hs he 0 0 dst hd
  · refine run_convert_bytes_arg w src 5 hs he g1 0 xs.length c1 xs rfl (fun i hi => ?_) dst hd
    have hc := h.row.cells (g := g1) rfl i (.int .u8 (xs.getD i 0)) (by simp [u8s, List.getElem?_eq_getElem hi, List.getD_eq_getElem?_getD])
    have ha : (⟨g1, 0, none⟩ : Addr).add i = ⟨g1, 0 + i, none⟩ := by unfold Addr.add; split <;> simp_all
    rwa [ha] at hc
theorem Wr.ne_own (h : Wr F w g T v more xs) : some g ≠ v.ownBlock := own_ne h.row h.cells h.ne
/-- The slice is another one, its row was written (or is a new one): it is stored. -/
theorem Wr.put (h : Wr F w g T v more xs) {v1 : Value} {ys : List Int} (hg : w.grownBy w1 v.ownBlock) (ho : w1.ownsRow 0 5 1 v1 ys.length (u8s ys)) (hv : v1.ownBlock = v.ownBlock ∨ ∃ b, v1.ownBlock = some b ∧ w.heap.size ≤ b) :
    Wr F (w1.setCell ⟨g, 0, none⟩ v1) g T v1 more ys ∧ Upd F w (w1.setCell ⟨g, 0, none⟩ v1) := by
  have hc1 : w1.heap[g]? = some (.cells (v :: more).toArray T (0, 0)) := (hg.block g (blk_lt h.cells) h.ne_own).trans h.cells
  have hne : some g ≠ v1.ownBlock := own_ne ho hc1 h.ne
  refine ⟨⟨(blk_set hc1 0 v1).trans (by simp), own_move ho (fun k hk => Below.heap_setCell _ _ _ _ (fun e => hne (by rw [hk]; simp at e; rw [e]))), h.here, ?_, fun k hk => h.new k (Nat.le_trans hg.size (by simpa using hk)), h.ne⟩, ?_⟩
  · intro k hk
    rcases hv with hv | ⟨b, hb, hle⟩
    · exact h.own k (hv.symm.trans hk)
    · rw [hb] at hk; cases hk; exact h.new _ hle
  · exact ((Upd.refl F w).grown hg (fun k hk => h.own k hk)).setCell h.here v1

/-- One of the cells behind the slice is written. -/
theorem Wr.setMore (h : Wr F w g T v more xs) (i : Nat) (u : Value) : Wr F (w.setCell ⟨g, i + 1, none⟩ u) g T v (more.set i u) xs ∧ Upd F w (w.setCell ⟨g, i + 1, none⟩ u) := by
  refine ⟨⟨(blk_set h.cells (i + 1) u).trans (by simp), own_move h.row (fun k hk => Below.heap_setCell _ _ _ _ (fun e => h.ne_own (by rw [hk]; simp at e; rw [e]))), h.here, h.own, fun k hk => h.new k (by simpa using hk), h.ne⟩, ?_⟩
  exact (Upd.refl F w).setCell h.here u
/-- What an append to it leaves. -/
structure Apd (w w1 : World) (v v1 : Value) (ys : List Int) : Prop where
  grown : w.grownBy w1 v.ownBlock
  row : w1.ownsRow 0 5 1 v1 ys.length (u8s ys)
  at_ : v1.ownBlock = v.ownBlock ∨ ∃ b, v1.ownBlock = some b ∧ w.heap.size ≤ b
theorem Wr.block_apd (h : Wr F w g T v more xs) {v1 : Value} {ys : List Int} (ha : Apd w w1 v v1 ys) : w1.heap[g]? = some (.cells (v :: more).toArray T (0, 0)) :=
  (ha.grown.block g (blk_lt h.cells) h.ne_own).trans h.cells
theorem Wr.put_apd (h : Wr F w g T v more xs) {v1 : Value} {ys : List Int} (ha : Apd w w1 v v1 ys) :
    Wr F (w1.setCell ⟨g, 0, none⟩ v1) g T v1 more ys ∧ Upd F w (w1.setCell ⟨g, 0, none⟩ v1) := h.put ha.grown ha.row ha.at_
end
section
variable {P : Program} {ops : Array Oper} {o : Oper} {a : Act} {Q : Exit → Act → World → Prop} {K : Act → World → Prop} {E : Prop}
variable {F : Nat → Prop} {W : World} {g : Nat} {T : TypeId} {v : Value} {more : List Value} {xs : List Int}
/-- append(b, y) at a writer's slice b: a step of a region that draws its order. -/
theorem Wr.append1 (h : Wr F W g T v more xs) (hgd : o.guard = none) (s x : Operand) (t : TypeId)
    (ho : o.op = .call { callee := .builtin .append, args := #[s, x], argTypes := #[t, t] })
    (ht : P.underlying t = some (.slice 5)) (hinfo : (P.info? 5).map (fun i => (i.zero, i.size, i.bytes)) = some (some (.int .u8 0), 1, 1))
    (hs : a.eval s = v) (b : Nat) (y : Int) (hx : a.eval x = .slice (some ⟨b, 0, none⟩) 1 1) (hy : W.cell? ⟨b, 0, none⟩ = some (.int .u8 y))
    (hl : xs.length + 1 ≤ 2000000000)
    (hK : ∀ g1 c1 w1, Apd W w1 v (.slice (some ⟨g1, 0, none⟩) (xs.length + 1) c1) (xs ++ [y]) → K (a.put o.dst (.slice (some ⟨g1, 0, none⟩) (xs.length + 1) c1)) w1) :
    if Region.wanted o (yielded ops a.tmps) = true then Oper.wp P o a W K Q else E := by
  obtain ⟨i0, hi, hzz⟩ := Option.map_eq_some_iff.1 hinfo
  simp only [Prod.mk.injEq] at hzz
  obtain ⟨hz0, hz1, hz2⟩ := hzz
  refine step_append_lies W hgd s x t ho 0 5 i0 (.int .u8 0) 1 1 ht hi hz0 hz1 hz2 rfl (by decide) v xs.length (u8s xs) hs h.row ⟨b, 0, none⟩ 1 1 [.int .u8 y] hx rfl ?_ (by intro u hu; simp only [List.mem_singleton] at hu; subst hu; rfl) (by decide) (by simp only [maxLen]; omega) (by omega) (Nat.zero_le _) _ rfl ?_
  · intro j u hj
    match j, hj with
    | 0, hj => simp only [List.getElem?_cons_zero, Option.some.injEq] at hj; subst hj; exact hy
  · intro g1 cap1 w1 ho1 hg1 hv1 _
    refine hK _ _ _ ⟨hg1, by simpa [u8s] using ho1, ?_⟩
    rcases hv1 with hv1 | hv1
    · exact .inl hv1.symm
    · exact .inr ⟨g1, rfl, by omega⟩
/-- append(b, s...), s a string: the same. -/
theorem Wr.appendS (h : Wr F W g T v more xs) (hgd : o.guard = none) (s x : Operand) (t u : TypeId)
    (ho : o.op = .call { callee := .builtin .append, args := #[s, x], argTypes := #[t, u] })
    (ht : P.underlying t = some (.slice 5)) (hu : P.underlying u = some .string) (hinfo : (P.info? 5).map (fun i => (i.zero, i.size, i.bytes)) = some (some (.int .u8 0), 1, 1))
    (hs : a.eval s = v) (y : ByteArray) (hx : a.eval x = .string y)
    (hl : xs.length + y.size ≤ 2000000000)
    (hK : ∀ A1 c1 w1, Apd W w1 v (.slice A1 (xs.length + y.size) c1) (xs ++ byts y) → K (a.put o.dst (.slice A1 (xs.length + y.size) c1)) w1) :
    if Region.wanted o (yielded ops a.tmps) = true then Oper.wp P o a W K Q else E := by
  obtain ⟨i0, hi, hzz⟩ := Option.map_eq_some_iff.1 hinfo
  simp only [Prod.mk.injEq] at hzz
  obtain ⟨hz0, hz1, hz2⟩ := hzz
  have hw : Region.wanted o (yielded ops a.tmps) = true := by simp [Region.wanted, hgd]
  rw [if_pos hw]
  have hxl : (u8s xs).length = xs.length := u8s_length xs
  obtain ⟨v1, w1, hr, hown, hg, hn⟩ := Lib.run_append_own_string (P := P) W 0 t u o.type 5 i0 ht hu hi hz0 hz1 hz2 v xs.length (u8s xs) h.row y (by simp only [maxLen]; omega) (by omega) (Nat.zero_le _)
  have hat : v1.ownBlock = v.ownBlock ∨ ∃ b, v1.ownBlock = some b ∧ W.heap.size ≤ b := by
    rcases h.row.2 with ⟨rfl, h0⟩ | ⟨g0, cap, cur, rfl, _, hg0, hnc, hcm, hcs, htake⟩
    · have hx0 : u8s xs = [] := List.eq_nil_of_length_eq_zero (by omega)
      obtain ⟨v2, w2, hr2, hown2, _, _⟩ := Lib.run_append_own_string (P := P) W W.heap.size t u o.type 5 i0 ht hu hi hz0 hz1 hz2 (.slice none 0 0) xs.length (u8s xs) ⟨by simp, .inl ⟨rfl, h0⟩⟩ y (by simp only [maxLen]; omega) (by omega) (Nat.le_refl _)
      rw [hr] at hr2
      cases hr2
      rcases hown2.2 with ⟨rfl, _⟩ | ⟨g1, _, _, rfl, hb1, _⟩
      · exact .inl rfl
      · exact .inr ⟨g1, rfl, hb1⟩
    · have hcs' : cur.size = cap := by simpa using hcs
      by_cases hroom : xs.length + y.size ≤ cap
      · have hr2 := Lib.run_append_room_string (P := P) W t u o.type 5 i0 ht hu hi hz1 g0 xs.length cap cur hg0 y hroom (by omega)
        rw [hr] at hr2
        cases hr2
        exact .inl rfl
      · have holds : ∀ j x, (u8s xs)[j]? = some x → W.cell? ((⟨g0, 0, none⟩ : Addr).add j) = some x := h.row.cells (g := g0) rfl
        have hr2 := Lib.run_append_grow_string (P := P) W t u o.type 5 i0 (.int .u8 0) ht hu hi hz0 ⟨g0, 0, none⟩ xs.length cap (u8s xs) (by rw [hz1]; omega) holds y (by omega) (by omega) (by rw [hz2]; exact growslice_fits (by omega) (by omega))
        rw [hr] at hr2
        cases hr2
        exact .inr ⟨_, rfl, Nat.le_refl _⟩
  have hl2 : (xs ++ byts y).length = xs.length + y.size := by rw [List.length_append, byts_length]
  have hc : u8s (xs ++ byts y) = u8s xs ++ Lib.strCells y := by
    rw [u8s_append]
    congr 1
    simp [u8s, byts, Lib.strCells]
  rw [← hc, ← hl2] at hown
  have hsh : ∃ A1 c1, v1 = .slice A1 (xs.length + y.size) c1 := by
    rw [← hl2]
    rcases hown.2 with ⟨rfl, h0⟩ | ⟨g1, c1, _, rfl, _⟩
    · exact ⟨none, 0, by rw [h0]⟩
    · exact ⟨_, _, rfl⟩
  obtain ⟨A1, c1, rfl⟩ := hsh
  unfold Oper.wp execOp
  simp only [ho, resolve, invoke, builtin, Sem.run_bind, Sem.run_pure, Result.andThen_ok, List.map_toArray, List.map_cons, List.map_nil, hs, hx, hr]
  exact hK _ _ _ ⟨hg, hown, hat⟩
/-- The same in a region that draws no order. -/
theorem Wr.appendSL {rest : List Oper} (h : Wr F W g T v more xs) (hgd : o.guard = none) (s x : Operand) (t u : TypeId)
    (ho : o.op = .call { callee := .builtin .append, args := #[s, x], argTypes := #[t, u] })
    (ht : P.underlying t = some (.slice 5)) (hu : P.underlying u = some .string) (hinfo : (P.info? 5).map (fun i => (i.zero, i.size, i.bytes)) = some (some (.int .u8 0), 1, 1))
    (hs : a.eval s = v) (y : ByteArray) (hx : a.eval x = .string y)
    (hl : xs.length + y.size ≤ 2000000000)
    (hK : ∀ A1 c1 w1, Apd W w1 v (.slice A1 (xs.length + y.size) c1) (xs ++ byts y) → wpList P ops Q rest (a.put o.dst (.slice A1 (xs.length + y.size) c1)) w1) :
    wpList P ops Q (o :: rest) a W := by
  refine wpList_plain hgd fun K' hK' => ?_
  have hh := Wr.appendS (P := P) (o := o) (a := a) (ops := ops) (K := K') (Q := Q) (E := True) h hgd s x t u ho ht hu hinfo hs y hx hl (fun A1 c1 w1 ha => hK' _ _ (hK A1 c1 w1 ha))
  have hw : Region.wanted o (yielded ops a.tmps) = true := by simp [Region.wanted, hgd]
  rwa [if_pos hw] at hh
end
end Go.Proofs.YtflofpnagfoeeaaDoor
