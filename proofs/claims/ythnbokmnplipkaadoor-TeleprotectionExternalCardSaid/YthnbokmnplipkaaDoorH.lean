import Derived.Test.YthnbokmnplipkaaDoorF
import Derived.Test.YthnbokmnplipkaaDoorP
import Derived.Test.YthnbokmnplipkaaDoorX
import Derived.Deep.Slices
/- The walk of TeleprotectionAlone. The condition Sch is its own. -/
namespace Go.Proofs.YthnbokmnplipkaaDoor.A
open Go.RowKit Go.Proofs.YthnbokmnplipkaaDoorW.PrintWords Go.Proofs.YthnbokmnplipkaaDoorW.PrintLast Go.Proofs.YthnbokmnplipkaaDoorW.PrintMore
open Go.Proofs.YthnbokmnplipkaaDoor.PTeleprotectionSteps
open Go.Proofs.YthnbokmnplipkaaDoor
attribute [local go_sem] max2_int min2_int max_two min_two max_three min_three max_four min_four
set_option linter.unusedVariables false
set_option linter.unusedSimpArgs false

theorem add_at (x : Addr) (i j : Nat) : x.add (i + (j + 1)) = ⟨(x.add i).block, (x.add i).off + (j + 1), none⟩ := by
  rw [← Go.Deep.add_add]
  generalize x.add i = y
  unfold Addr.add
  rw [if_neg (by omega)]
/-- A slice of inputs, as the row opens it. -/
def InRow (w : World) (a : Option Addr) (len cap : Nat) : Prop :=
  (a = none ∧ len = 0 ∧ cap = 0) ∨ ∃ x, a = some x ∧ len ≤ cap ∧ cap ≤ maxLen ∧ ∀ i, i < len → ∃ (u0 : Bool) (u1 : Bool) (u2 : Bool) (u3 : Bool), w.cell? (x.add (i * 4 + 0)) = some (.bool u0) ∧ w.cell? (x.add (i * 4 + 1)) = some (.bool u1) ∧ w.cell? (x.add (i * 4 + 2)) = some (.bool u2) ∧ w.cell? (x.add (i * 4 + 3)) = some (.bool u3)

set_option maxRecDepth 100000 in
set_option maxHeartbeats 3000000 in
theorem TeleprotectionAlone_walk (s wait guard : Int) (la : Option Addr) (len cap : Nat) (w : World) (hs : Sch w) (hrow : InRow w la len cap) :
    Calls Tryd.prog 8 #[sett s wait guard, .slice la len cap] w fun e w' => e = .returned (.bool true) ∧ Below w.heap.size w w' := by
  have HS := Aside0.mk hs
  have HSW := Aside0.mk hs
  have W1 := Aside0.mk hrow
  have hmax : len ≤ 9223372036854775807 := by
    rcases hrow with ⟨_, h, _⟩ | ⟨_, _, h, h2, _⟩
    · omega
    · unfold maxLen at h2; omega
  clear hs hrow
  obtain ⟨v, hv⟩ : ∃ v, validB s wait guard 0 0 = v := ⟨_, rfl⟩
  have HVV := Aside0.mk hv
  clear hv
  have HB := Aside0.mk (below_alloc (Below.refl w.heap.size w) (.cells #[.int .i64 s, .int .i64 wait, .int .i64 guard] 33))
  have BS : Aside0 ((w.alloc (.cells #[.int .i64 s, .int .i64 wait, .int .i64 guard] 33)).heap[w.heap.size]? = some (.cells #[.int .i64 s, .int .i64 wait, .int .i64 guard] 33 (0, 0))) := ⟨heap_alloc_new w _⟩
  replace HS := Aside0.mk (HS.out.below HB.out)
  go_enter Tryd.func8, Tryd.ntmps8
  go_wp2_with fail
  generalize w.alloc (.cells #[.int .i64 s, .int .i64 wait, .int .i64 guard] 33) = W0 at *
  obtain ⟨sb, hsb⟩ : ∃ sb, w.heap.size = sb := ⟨_, rfl⟩
  rw [hsb] at BS ⊢
  clear hsb
  have q0 : W0.cell? ⟨sb, 0, none⟩ = some (.int .i64 s) := blk_cell BS.out 0
  have q1 : W0.cell? ⟨sb, 1, none⟩ = some (.int .i64 wait) := blk_cell BS.out 1
  have q2 : W0.cell? ⟨sb, 2, none⟩ = some (.int .i64 guard) := blk_cell BS.out 2
  refine Q.q_start (by kernel_rfl) (by kernel_rfl) ?_
  refine Q.q_value (N := some 12) (v := ?_) (a' := ?_) rfl (by rfl) ?_ ?_ ?_
  rotate_left
  · intro w' hb
    clear hb
    go_simp
    with_reducible rfl
  rotate_left
  · simp only [Act.put, List.setIfInBounds_toArray, List.set_cons_zero, List.set_cons_succ, i64_w, i32_w]
    rfl
  refine Q.q_value (N := some 13) (v := ?_) (a' := ?_) rfl (by rfl) ?_ ?_ ?_
  rotate_left
  · intro w' hb
    have s0 := pw_cell_below hb q0
    clear hb
    go_simp
    with_reducible rfl
  rotate_left
  · simp only [Act.put, List.setIfInBounds_toArray, List.set_cons_zero, List.set_cons_succ, i64_w, i32_w]
    rfl
  refine Q.q_value (N := some 14) (v := ?_) (a' := ?_) rfl (by rfl) ?_ ?_ ?_
  rotate_left
  · intro w' hb
    clear hb
    go_simp
    with_reducible rfl
  rotate_left
  · simp only [Act.put, List.setIfInBounds_toArray, List.set_cons_zero, List.set_cons_succ, i64_w, i32_w]
    rfl
  refine Q.q_value (N := some 15) (v := ?_) (a' := ?_) rfl (by rfl) ?_ ?_ ?_
  rotate_left
  · intro w' hb
    have s0 := pw_cell_below hb q1
    clear hb
    go_simp
    with_reducible rfl
  rotate_left
  · simp only [Act.put, List.setIfInBounds_toArray, List.set_cons_zero, List.set_cons_succ, i64_w, i32_w]
    rfl
  refine Q.q_value (N := some 16) (v := ?_) (a' := ?_) rfl (by rfl) ?_ ?_ ?_
  rotate_left
  · intro w' hb
    clear hb
    go_simp
    with_reducible rfl
  rotate_left
  · simp only [Act.put, List.setIfInBounds_toArray, List.set_cons_zero, List.set_cons_succ, i64_w, i32_w]
    rfl
  refine Q.q_value (N := some 17) (v := ?_) (a' := ?_) rfl (by rfl) ?_ ?_ ?_
  rotate_left
  · intro w' hb
    have s0 := pw_cell_below hb q2
    clear hb
    go_simp
    with_reducible rfl
  rotate_left
  · simp only [Act.put, List.setIfInBounds_toArray, List.set_cons_zero, List.set_cons_succ, i64_w, i32_w]
    rfl
  refine Q.q_value (N := some 5) (v := ?_) (a' := ?_) rfl (by rfl) ?_ ?_ ?_
  rotate_left
  · intro w' hb
    clear hb
    go_simp
    with_reducible rfl
  rotate_left
  · simp only [Act.put, List.setIfInBounds_toArray, List.set_cons_zero, List.set_cons_succ, i64_w, i32_w]
    rfl
  refine Q.q_value (N := some 6) (v := ?_) (a' := ?_) rfl (by rfl) ?_ ?_ ?_
  rotate_left
  · intro w' hb
    clear hb
    go_simp
    with_reducible rfl
  rotate_left
  · simp only [Act.put, List.setIfInBounds_toArray, List.set_cons_zero, List.set_cons_succ, i64_w, i32_w]
    rfl
  refine Q.q_value (N := some 7) (v := ?_) (a' := ?_) rfl (by rfl) ?_ ?_ ?_
  rotate_left
  · intro w' hb
    clear hb
    go_simp
    with_reducible rfl
  rotate_left
  · simp only [Act.put, List.setIfInBounds_toArray, List.set_cons_zero, List.set_cons_succ, i64_w, i32_w]
    rfl
  refine wpQuiet_nil ?_
  intro w1 HB1
  replace HS := Aside0.mk (HS.out.below HB1)
  replace HB := Aside0.mk (below_step HB.out HB1)
  clear HB1 q0 q1 q2 BS
  have KN : ∀ W : World, Sch W → Calls Tryd.prog 10 #[] W fun e w' => e = .returned (.bool true) ∧ Below W.heap.size W w' := fun W h => known_calls W h
  by_cases hl : 80 < len
  · have t0 : decide (80 < (len : Int)) = true := by simp; omega
    go_wp2_with fail
    with_reducible refine (known_calls _ HS.out).mono ?_
    rintro e w2 ⟨rfl, HB1⟩
    replace HB := Aside0.mk (below_step HB.out HB1)
    clear HB1
    go_wp2_with fail
    go_ret
    exact ⟨rfl, HB.out⟩
  · have t0 : decide (80 < (len : Int)) = false := by simp; omega
    go_wp2_with fail
    with_reducible refine (valid_is HVV.out _ HS.out).mono ?_
    rintro e w2 ⟨rfl, HB1⟩
    replace HS := Aside0.mk (HS.out.below HB1)
    replace HB := Aside0.mk (below_step HB.out HB1)
    clear HB1
    cases v with
    | false =>
      go_wp2_with fail
      with_reducible refine (known_calls _ HS.out).mono ?_
      rintro e w3 ⟨rfl, HB1⟩
      replace HB := Aside0.mk (below_step HB.out HB1)
      clear HB1
      go_wp2_with fail
      go_ret
      exact ⟨rfl, HB.out⟩
    | true =>
      have TB := Aside0.mk (Tb.mk (heap_alloc_new w2 (.cells #[.int .i64 0, .int .i64 0] 23)))
      have hle : w.heap.size ≤ w2.heap.size := HB.out.size
      replace HS := Aside0.mk (HS.out.below (below_alloc (Below.refl _ _) (.cells #[.int .i64 0, .int .i64 0] 23)))
      replace HB := Aside0.mk (below_alloc HB.out (.cells #[.int .i64 0, .int .i64 0] 23))
      clear KN
      go_wp2_with fail
      generalize w2.alloc (.cells #[.int .i64 0, .int .i64 0] 23) = W2 at *
      generalize w2.heap.size = tb at *
      go_loopw [33] (fun i wr => ∃ k : Nat, k ≤ len ∧ i = .int .i64 k ∧ ∃ g h, Aside0 (validB s wait guard g h = true) ∧ h ≤ (k : Int) ∧ Aside0 (Tb wr tb g h) ∧ Aside0 (Sch wr) ∧ Aside0 (Below w.heap.size w wr))
        (fun i _ => len + 1 - (intOf i).toNat)
      case atStart => exact ⟨0, by omega, rfl, 0, 0, HVV, by omega, TB, HS, HB⟩
      case round =>
        clear TB HS HB HVV
        obtain ⟨k, hk, rfl, g, h, HV, hh, TB, HS, HB⟩ := hrel
        by_cases hlen : k < len
        · have t1 : decide ((k : Int) < (len : Int)) = true := by simp; omega
          obtain ⟨x, rfl, _, _, hrow⟩ := W1.out.resolve_left (by omega)
          obtain ⟨z1, z2, rv, rc, c0, c1, c2, c3⟩ := hrow k hlen
          clear hrow
          rw [Nat.add_zero] at c0
          rw [add_at x (k * 4) 0] at c1
          rw [add_at x (k * 4) 1] at c2
          rw [add_at x (k * 4) 2] at c3
          replace c0 := pw_cell_below HB.out c0
          replace c1 := pw_cell_below HB.out c1
          replace c2 := pw_cell_below HB.out c2
          replace c3 := pw_cell_below HB.out c3
          have BB := below_alloc (below_alloc (Below.refl wr.heap.size wr) (.cells #[.bool z1, .bool z2, .bool rv, .bool false] 29)) (.cells #[.bool false, .bool false] 25)
          have htb := TB.out.lt
          replace TB := Aside0.mk (TB.out.below BB)
          replace HS := Aside0.mk (HS.out.below BB)
          replace HB := Aside0.mk (below_step HB.out BB)
          clear BB
          have OB : Aside0 (Ob ((wr.alloc (.cells #[.bool z1, .bool z2, .bool rv, .bool false] 29)).alloc (.cells #[.bool false, .bool false] 25)) (wr.heap.size + 1) false false) := ⟨⟨by have := heap_alloc_new (wr.alloc (.cells #[.bool z1, .bool z2, .bool rv, .bool false] 29)) (.cells #[.bool false, .bool false] 25); rwa [World.size_alloc] at this⟩⟩
          have hle2 : w.heap.size ≤ wr.heap.size + 1 := by omega
          have hne : tb ≠ wr.heap.size + 1 := by omega
          have q0 := TB.out.c0
          have q1 := TB.out.c1
          go_wp2_with fail
          obtain ⟨g', h', a1, a2, hst⟩ : ∃ g' h' a1 a2, stepV s wait guard g h z1 z2 rv false = (g', h', a1, a2) := ⟨_, _, _, _, rfl⟩
          have hv' := valid_step s wait guard g h z1 z2 rv false HV.out
          have hh' := alone_held s wait guard g h z1 z2 rv false HV.out
          have htr := alone_trip s wait guard g h z1 z2 rv
          rw [hst] at hv' hh' htr
          dsimp only at hv' hh' htr
          have HV' := Aside0.mk hv'
          have HST := Aside0.mk hst
          clear hv' hst c0 c1 c2 c3
          with_reducible refine (step_is HST.out _ HS.out).mono ?_
          rintro e w5 ⟨rfl, HB1⟩
          replace TB := Aside0.mk (TB.out.below HB1)
          replace OB := Aside0.mk (OB.out.below HB1)
          replace HS := Aside0.mk (HS.out.below HB1)
          replace HB := Aside0.mk (below_step HB.out HB1)
          clear HB1 q0 q1
          generalize wr.heap.size + 1 = ob at *
          have hs0 := HS.out
          have q0 := TB.out.c0
          have q1 := TB.out.c1
          have f0 := TB.out.fr 0
          have f1 := TB.out.fr 1
          have o0 : (World.setCell (World.setCell w5 ⟨tb, 0, none⟩ (.int .i64 g')) ⟨tb, 1, none⟩ (.int .i64 h')).cell? ⟨ob, 0, none⟩ = some (.bool false) := blk_cell (blk_far (blk_far OB.out.blk (Ne.symm hne) _) (Ne.symm hne) _) 0
          have o1 : (World.setCell (World.setCell w5 ⟨tb, 0, none⟩ (.int .i64 g')) ⟨tb, 1, none⟩ (.int .i64 h')).cell? ⟨ob, 1, none⟩ = some (.bool false) := blk_cell (blk_far (blk_far OB.out.blk (Ne.symm hne) _) (Ne.symm hne) _) 1
          have e0 : (World.setCell (World.setCell w5 ⟨tb, 0, none⟩ (.int .i64 g')) ⟨tb, 1, none⟩ (.int .i64 h')).frozen? ⟨ob, 0, none⟩ = false := blk_frozen (blk_far (blk_far OB.out.blk (Ne.symm hne) _) (Ne.symm hne) _) 0
          have e1 : (World.setCell (World.setCell w5 ⟨tb, 0, none⟩ (.int .i64 g')) ⟨tb, 1, none⟩ (.int .i64 h')).frozen? ⟨ob, 1, none⟩ = false := blk_frozen (blk_far (blk_far OB.out.blk (Ne.symm hne) _) (Ne.symm hne) _) 1
          have r1 : ((((World.setCell w5 ⟨tb, 0, none⟩ (.int .i64 g')).setCell ⟨tb, 1, none⟩ (.int .i64 h')).setCell ⟨ob, 0, none⟩ (.bool a1)).setCell ⟨ob, 1, none⟩ (.bool a2)).cell? ⟨ob, 1, none⟩ = some (.bool a2) := blk_cell (blk_set (blk_set (blk_far (blk_far OB.out.blk (Ne.symm hne) _) (Ne.symm hne) _) 0 _) 1 _) 1
          have TB' : Aside0 (Tb ((((World.setCell w5 ⟨tb, 0, none⟩ (.int .i64 g')).setCell ⟨tb, 1, none⟩ (.int .i64 h')).setCell ⟨ob, 0, none⟩ (.bool a1)).setCell ⟨ob, 1, none⟩ (.bool a2)) tb g' h') := ⟨⟨blk_far (blk_far (blk_set (blk_set TB.out.blk 0 _) 1 _) hne _) hne _⟩⟩
          have HB' : Aside0 (Below w.heap.size w ((((World.setCell w5 ⟨tb, 0, none⟩ (.int .i64 g')).setCell ⟨tb, 1, none⟩ (.int .i64 h')).setCell ⟨ob, 0, none⟩ (.bool a1)).setCell ⟨ob, 1, none⟩ (.bool a2))) := ⟨below_set (below_set (below_set (below_set HB.out _ hle _ _) _ hle _ _) _ hle2 _ _) _ hle2 _ _⟩
          have HS' : Aside0 (Sch ((((World.setCell w5 ⟨tb, 0, none⟩ (.int .i64 g')).setCell ⟨tb, 1, none⟩ (.int .i64 h')).setCell ⟨ob, 0, none⟩ (.bool a1)).setCell ⟨ob, 1, none⟩ (.bool a2))) := ⟨HSW.out.below HB'.out⟩
          clear hs0
          cases a2 with
          | false =>
            go_wp2_with fail
            go_roundw
            case rel => exact ⟨k + 1, by omega, by go_num, g', h', HV', by omega, TB', HS', HB'⟩
            case measure => simp [intOf]; omega
          | true =>
            obtain ⟨rfl, hlt⟩ := htr rfl
            have t2 : decide ((k : Int) < wait) = false := by simp; omega
            go_wp2_with fail
            go_roundw
            case rel => exact ⟨k + 1, by omega, by go_num, g', h', HV', by omega, TB', HS', HB'⟩
            case measure => simp [intOf]; omega
        · obtain rfl : k = len := by omega
          go_wp2_with fail
          with_reducible refine (known_calls _ HS.out).mono ?_
          rintro e w3 ⟨rfl, HB1⟩
          replace HB := Aside0.mk (below_step HB.out HB1)
          clear HB1
          go_wp2_with fail
          go_ret
          exact ⟨rfl, HB.out⟩
end Go.Proofs.YthnbokmnplipkaaDoor.A
