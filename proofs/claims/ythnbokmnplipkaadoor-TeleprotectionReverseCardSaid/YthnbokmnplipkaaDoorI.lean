import Derived.Test.YthnbokmnplipkaaDoorM
/- Rows of inputs that a call makes; the condition Sch is the contracts' own. -/
namespace Go.Proofs.YthnbokmnplipkaaDoor.A
open Go.RowKit Go.Proofs.YthnbokmnplipkaaDoorW.PrintWords Go.Proofs.YthnbokmnplipkaaDoorW.PrintLast Go.Proofs.YthnbokmnplipkaaDoorW.PrintMore
open Go.Proofs.YthnbokmnplipkaaDoor.PTeleprotectionSteps
open Go.Proofs.YthnbokmnplipkaaDoor
attribute [local go_sem] max2_int min2_int max_two min_two max_three min_three max_four min_four
set_option linter.unusedVariables false
set_option linter.unusedSimpArgs false

def rowCells (F : Nat → Sees) : Nat → List Value
  | 0 => []
  | n + 1 => rowCells F n ++ [.bool (F n).1, .bool (F n).2.1, .bool (F n).2.2, .bool false]
theorem rowCells_len (F : Nat → Sees) (n : Nat) : (rowCells F n).length = n * 4 := by
  induction n with
  | zero => rfl
  | succ n ih => rw [rowCells, List.length_append, ih]; simp; omega
theorem rowCells_at (F : Nat → Sees) (n i : Nat) (hi : i < n) (j : Nat) (hj : j < 4) : (rowCells F n)[i * 4 + j]? = [Value.bool (F i).1, .bool (F i).2.1, .bool (F i).2.2, .bool false][j]? := by
  induction n with
  | zero => omega
  | succ n ih =>
    rw [rowCells]
    by_cases h : i < n
    · rw [List.getElem?_append_left (by rw [rowCells_len]; omega)]
      exact ih h
    · obtain rfl : i = n := by omega
      rw [List.getElem?_append_right (by rw [rowCells_len]; omega), rowCells_len, Nat.add_sub_cancel_left]
structure ARow (w : World) (base : Nat) (v : Value) (n : Nat) (F : Nat → Sees) : Prop where
  own : w.ownsRow base 29 4 v n (rowCells F n)
theorem ARow.nil (w : World) (base : Nat) (F : Nat → Sees) : ARow w base (.slice none 0 0) 0 F := ⟨rfl, .inl ⟨rfl, rfl⟩⟩
theorem ARow.below {w w1 : World} {base : Nat} {v : Value} {n : Nat} {F : Nat → Sees} (h : ARow w base v n F) (hb : Below w.heap.size w w1) : ARow w1 base v n F := by
  obtain ⟨h1, h2⟩ := h.own
  exact ⟨h1, h2.imp id fun ⟨g, cap, cur, he, hg, hr, r⟩ => ⟨g, cap, cur, he, hg, (hb.block g (blk_lt hr)).trans hr, r⟩⟩
theorem ARow.grown {w w1 : World} {base : Nat} {v : Value} {n : Nat} {F : Nat → Sees} {row : Option Nat} (h : ARow w base v n F) (hg : w.grownBy w1 row) (hne : ∀ k, v.ownBlock = some k → some k ≠ row) : ARow w1 base v n F := by
  obtain ⟨h1, h2⟩ := h.own
  exact ⟨h1, h2.imp id fun ⟨g, cap, cur, he, hg', hr, r⟩ => ⟨g, cap, cur, he, hg', (hg.block g (blk_lt hr) (hne g (by rw [he]; rfl))).trans hr, r⟩⟩
theorem ARow.lt {w : World} {base : Nat} {v : Value} {n : Nat} {F : Nat → Sees} (h : ARow w base v n F) (k : Nat) (hk : v.ownBlock = some k) : k < w.heap.size := by
  obtain ⟨h1, h2⟩ := h.own
  rcases h2 with ⟨rfl, _⟩ | ⟨g, cap, cur, rfl, hg', hr, r⟩
  · cases hk
  · obtain rfl : g = k := by simpa [Value.ownBlock] using hk
    exact blk_lt hr
theorem ARow.reads {w : World} {base : Nat} {v : Value} {n : Nat} {F : Nat → Sees} (h : ARow w base v n F) : ∃ la c, v = .slice la n c ∧ RowB w la n F := by
  obtain ⟨h1, h2⟩ := h.own
  rcases h2 with ⟨rfl, rfl⟩ | ⟨g, cap, cur, rfl, hg', hr, r⟩
  · exact ⟨none, 0, rfl, ⟨fun i hi => by omega⟩⟩
  · refine ⟨_, _, rfl, ⟨fun i hi => ⟨⟨g, 0, none⟩, false, rfl, ?_⟩⟩⟩
    have own := h.own
    have c := fun j (hj : j < 4) => (own.cellAt (i * 4 + j) (by omega)).trans (rowCells_at F n i hi j hj)
    have c0 := c 0 (by omega)
    have c1 := c 1 (by omega)
    have c2 := c 2 (by omega)
    have c3 := c 3 (by omega)
    rw [add_plain]
    exact ⟨c0, c1, c2, c3⟩
/-- The rows of two slices lie apart. -/
def NeB (v u : Value) : Prop := ∀ k, v.ownBlock = some k → u.ownBlock ≠ some k
theorem info29 : (Tryd.prog.info? 29).map (fun i => (i.zero, i.size, i.bytes)) = some (some (.agg #[.bool false, .bool false, .bool false, .bool false]), 4, 4) := by kernel_rfl
theorem pair_is {s wait guard : Int} {la lb : Option Addr} {n ca cb : Nat} {Fa Fb : Nat → Sees} {x y : Int} {st : St} (e : stN s wait guard Fa Fb n = st) (hx : st.f0 = x) (hy : st.f1 = y) (w : World) (hs : Sch w) (hn : n ≤ 1000) (ha : RowB w la n Fa) (hb : RowB w lb n Fb) :
    Calls Tryd.prog 14 #[.int .i64 s, .int .i64 wait, .int .i64 guard, .slice la n ca, .slice lb n cb] w fun e w' => e = .returned (.agg #[.int .i64 x, .int .i64 y]) ∧ Below w.heap.size w w' := by
  have := pair_calls s wait guard la lb n ca cb Fa Fb w hs hn ha hb
  rw [e, hx, hy] at this
  exact this
theorem RowB.below {w w1 : World} {la : Option Addr} {n : Nat} {F : Nat → Sees} (h : RowB w la n F) (hb : Below w.heap.size w w1) : RowB w1 la n F := ⟨fun i hi => by
  obtain ⟨x, r, e, c0, c1, c2, c3⟩ := h.at_ i hi
  exact ⟨x, r, e, pw_cell_below hb c0, pw_cell_below hb c1, pw_cell_below hb c2, pw_cell_below hb c3⟩⟩
theorem eq38 (a b c d : Int) (w : World) : (Op.equalIn 10000 38 (.agg #[.int .i64 a, .int .i64 b]) (.agg #[.int .i64 c, .int .i64 d])).run Tryd.prog w = .ok ((a == c) && (b == d)) w := by
  have h3 : (sizeOf 3).run Tryd.prog w = .ok 1 w := by kernel_rfl
  have p0 : ∀ x y : Int, (part 3 #[.int .i64 x, .int .i64 y] 0).run Tryd.prog w = .ok (.int .i64 x) w := fun x y => by kernel_rfl
  have p1 : ∀ x y : Int, (part 3 #[.int .i64 x, .int .i64 y] 1).run Tryd.prog w = .ok (.int .i64 y) w := fun x y => by kernel_rfl
  have e : ∀ x y : Int, (Op.equalIn 9999 3 (.int .i64 x) (.int .i64 y)).run Tryd.prog w = .ok (x == y) w := fun x y => run_equalIn_int w 9998 3 .i64 .i64 x y Tryd.underlying3
  rw [show (10000 : Nat) = 9999 + 1 from rfl, Op.equalIn]
  simp only [Sem.run_bind, run_underlying Tryd.underlying38, Result.andThen_ok, h3, Std.Legacy.Range.forIn_eq_forIn_range', Std.Legacy.Range.size]
  simp [List.range', p0, p1, e, Sem.run_bind]
  by_cases h1 : a = c <;> by_cases h2 : b = d <;> simp [h1, h2]
theorem four_bools (a b c d : Bool) : ∀ u ∈ [Value.bool a, .bool b, .bool c, .bool d], u.oneCell' = true := by
  intro u hu
  simp only [List.mem_cons, List.not_mem_nil, or_false] at hu
  rcases hu with rfl | rfl | rfl | rfl <;> rfl
end Go.Proofs.YthnbokmnplipkaaDoor.A
