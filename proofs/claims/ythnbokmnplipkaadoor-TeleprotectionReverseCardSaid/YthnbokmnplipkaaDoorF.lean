import Derived.Test.YthnbokmnplipkaaDoorE
/- The walk of TeleprotectionSteps. The condition Sch is its own. -/
namespace Go.Proofs.YthnbokmnplipkaaDoor.A
open Go.RowKit Go.Proofs.YthnbokmnplipkaaDoorW.PrintWords Go.Proofs.YthnbokmnplipkaaDoorW.PrintLast Go.Proofs.YthnbokmnplipkaaDoorW.PrintMore
open Go.Proofs.YthnbokmnplipkaaDoor.PTeleprotectionSteps
open Go.Proofs.YthnbokmnplipkaaDoor
attribute [local go_sem] max2_int min2_int max_two min_two max_three min_three max_four min_four
set_option linter.unusedVariables false
set_option linter.unusedSimpArgs false

abbrev sett (s wait guard : Int) : Value := .agg #[.int .i64 s, .int .i64 wait, .int .i64 guard]
/-- The blocks of the three arguments. -/
structure Ar (w : World) (a b c : Nat) (s wait guard g h : Int) (z1 z2 rv rc : Bool) : Prop where
  hs : w.heap[a]? = some (.cells #[.int .i64 s, .int .i64 wait, .int .i64 guard] 33 (0, 0))
  ht : w.heap[b]? = some (.cells #[.int .i64 g, .int .i64 h] 23 (0, 0))
  hi : w.heap[c]? = some (.cells #[.bool z1, .bool z2, .bool rv, .bool rc] 29 (0, 0))
section
variable {w w1 : World} {a b c : Nat} {s wait guard g h : Int} {z1 z2 rv rc : Bool}
theorem Ar.below (k : Ar w a b c s wait guard g h z1 z2 rv rc) (hb : Below w.heap.size w w1) : Ar w1 a b c s wait guard g h z1 z2 rv rc :=
  ⟨(hb.block _ (blk_lt k.hs)).trans k.hs, (hb.block _ (blk_lt k.ht)).trans k.ht, (hb.block _ (blk_lt k.hi)).trans k.hi⟩
theorem Ar.made (w : World) (s wait guard g h : Int) (z1 z2 rv rc : Bool) : Ar (((w.alloc (.cells #[.int .i64 s, .int .i64 wait, .int .i64 guard] 33)).alloc (.cells #[.int .i64 g, .int .i64 h] 23)).alloc (.cells #[.bool z1, .bool z2, .bool rv, .bool rc] 29)) w.heap.size (w.heap.size + 1) (w.heap.size + 1 + 1) s wait guard g h z1 z2 rv rc :=
  ⟨blk_alloc (blk_alloc (heap_alloc_new w _) _) _, blk_alloc (by have := heap_alloc_new (w.alloc (.cells #[.int .i64 s, .int .i64 wait, .int .i64 guard] 33)) (.cells #[.int .i64 g, .int .i64 h] 23); rwa [World.size_alloc] at this) _,
   by have := heap_alloc_new ((w.alloc (.cells #[.int .i64 s, .int .i64 wait, .int .i64 guard] 33)).alloc (.cells #[.int .i64 g, .int .i64 h] 23)) (.cells #[.bool z1, .bool z2, .bool rv, .bool rc] 29); rwa [World.size_alloc, World.size_alloc] at this⟩
theorem Ar.s0 (k : Ar w a b c s wait guard g h z1 z2 rv rc) : w.cell? ⟨a, 0, none⟩ = some (.int .i64 s) := blk_cell k.hs 0
theorem Ar.s1 (k : Ar w a b c s wait guard g h z1 z2 rv rc) : w.cell? ⟨a, 1, none⟩ = some (.int .i64 wait) := blk_cell k.hs 1
theorem Ar.s2 (k : Ar w a b c s wait guard g h z1 z2 rv rc) : w.cell? ⟨a, 2, none⟩ = some (.int .i64 guard) := blk_cell k.hs 2
theorem Ar.t0 (k : Ar w a b c s wait guard g h z1 z2 rv rc) : w.cell? ⟨b, 0, none⟩ = some (.int .i64 g) := blk_cell k.ht 0
theorem Ar.t1 (k : Ar w a b c s wait guard g h z1 z2 rv rc) : w.cell? ⟨b, 1, none⟩ = some (.int .i64 h) := blk_cell k.ht 1
theorem Ar.i0 (k : Ar w a b c s wait guard g h z1 z2 rv rc) : w.cell? ⟨c, 0, none⟩ = some (.bool z1) := blk_cell k.hi 0
theorem Ar.i1 (k : Ar w a b c s wait guard g h z1 z2 rv rc) : w.cell? ⟨c, 1, none⟩ = some (.bool z2) := blk_cell k.hi 1
theorem Ar.i2 (k : Ar w a b c s wait guard g h z1 z2 rv rc) : w.cell? ⟨c, 2, none⟩ = some (.bool rv) := blk_cell k.hi 2
theorem Ar.i3 (k : Ar w a b c s wait guard g h z1 z2 rv rc) : w.cell? ⟨c, 3, none⟩ = some (.bool rc) := blk_cell k.hi 3
end

set_option maxRecDepth 100000 in
set_option maxHeartbeats 4000000 in
theorem TeleprotectionSteps_walk (s wait guard g h : Int) (z1 z2 rv rc : Bool) (w : World) (hs : Sch w) :
    Calls Tryd.prog 4 #[sett s wait guard, tele g h, inp z1 z2 rv rc] w fun e w' => e = .returned (.bool true) ∧ Below w.heap.size w w' := by
  have HS := Aside0.mk hs
  clear hs
  obtain ⟨v, hv⟩ : ∃ v, validB s wait guard g h = v := ⟨_, rfl⟩
  obtain ⟨g', h', a1, a2, hst⟩ : ∃ g' h' a1 a2, stepV s wait guard g h z1 z2 rv rc = (g', h', a1, a2) := ⟨_, _, _, _, rfl⟩
  have HVV := Aside0.mk hv
  have HST := Aside0.mk hst
  clear hv hst
  have AR := Aside0.mk (Ar.made w s wait guard g h z1 z2 rv rc)
  have HB := Aside0.mk (below_alloc (below_alloc (below_alloc (Below.refl w.heap.size w) (.cells #[.int .i64 s, .int .i64 wait, .int .i64 guard] 33)) (.cells #[.int .i64 g, .int .i64 h] 23)) (.cells #[.bool z1, .bool z2, .bool rv, .bool rc] 29))
  replace HS := Aside0.mk (HS.out.below HB.out)
  go_enter Tryd.func4, Tryd.ntmps4
  go_wp2_with fail
  generalize ((w.alloc (.cells #[.int .i64 s, .int .i64 wait, .int .i64 guard] 33)).alloc (.cells #[.int .i64 g, .int .i64 h] 23)).alloc (.cells #[.bool z1, .bool z2, .bool rv, .bool rc] 29) = W0 at *
  obtain ⟨a, ha⟩ : ∃ a, w.heap.size = a := ⟨_, rfl⟩
  generalize w.heap.size + 1 + 1 = c at AR ⊢
  generalize w.heap.size + 1 = b at AR ⊢
  rw [ha] at AR ⊢
  clear ha
  have q0 := AR.out.s0
  have q1 := AR.out.s1
  have q2 := AR.out.s2
  refine Q.q_start (by kernel_rfl) (by kernel_rfl) ?_
  refine Q.q_value (N := some 15) (v := ?_) (a' := ?_) rfl (by rfl) ?_ ?_ ?_
  rotate_left
  · intro w' hb
    clear hb
    go_simp
    with_reducible rfl
  rotate_left
  · simp only [Act.put, List.setIfInBounds_toArray, List.set_cons_zero, List.set_cons_succ, i64_w, i32_w]
    rfl
  refine Q.q_value (N := some 16) (v := ?_) (a' := ?_) rfl (by rfl) ?_ ?_ ?_
  rotate_left
  · intro w' hb
    have s0 := pw_cell_below hb q0
    clear hb
    go_simp
    with_reducible rfl
  rotate_left
  · simp only [Act.put, List.setIfInBounds_toArray, List.set_cons_zero, List.set_cons_succ, i64_w, i32_w]
    rfl
  refine Q.q_value (N := some 17) (v := ?_) (a' := ?_) rfl (by rfl) ?_ ?_ ?_
  rotate_left
  · intro w' hb
    clear hb
    go_simp
    with_reducible rfl
  rotate_left
  · simp only [Act.put, List.setIfInBounds_toArray, List.set_cons_zero, List.set_cons_succ, i64_w, i32_w]
    rfl
  refine Q.q_value (N := some 18) (v := ?_) (a' := ?_) rfl (by rfl) ?_ ?_ ?_
  rotate_left
  · intro w' hb
    have s0 := pw_cell_below hb q1
    clear hb
    go_simp
    with_reducible rfl
  rotate_left
  · simp only [Act.put, List.setIfInBounds_toArray, List.set_cons_zero, List.set_cons_succ, i64_w, i32_w]
    rfl
  refine Q.q_value (N := some 19) (v := ?_) (a' := ?_) rfl (by rfl) ?_ ?_ ?_
  rotate_left
  · intro w' hb
    clear hb
    go_simp
    with_reducible rfl
  rotate_left
  · simp only [Act.put, List.setIfInBounds_toArray, List.set_cons_zero, List.set_cons_succ, i64_w, i32_w]
    rfl
  refine Q.q_value (N := some 20) (v := ?_) (a' := ?_) rfl (by rfl) ?_ ?_ ?_
  rotate_left
  · intro w' hb
    have s0 := pw_cell_below hb q2
    clear hb
    go_simp
    with_reducible rfl
  rotate_left
  · simp only [Act.put, List.setIfInBounds_toArray, List.set_cons_zero, List.set_cons_succ, i64_w, i32_w]
    rfl
  refine Q.q_value (N := some 7) (v := ?_) (a' := ?_) rfl (by rfl) ?_ ?_ ?_
  rotate_left
  · intro w' hb
    clear hb
    go_simp
    with_reducible rfl
  rotate_left
  · simp only [Act.put, List.setIfInBounds_toArray, List.set_cons_zero, List.set_cons_succ, i64_w, i32_w]
    rfl
  refine Q.q_value (N := some 8) (v := ?_) (a' := ?_) rfl (by rfl) ?_ ?_ ?_
  rotate_left
  · intro w' hb
    clear hb
    go_simp
    with_reducible rfl
  rotate_left
  · simp only [Act.put, List.setIfInBounds_toArray, List.set_cons_zero, List.set_cons_succ, i64_w, i32_w]
    rfl
  refine Q.q_value (N := some 9) (v := ?_) (a' := ?_) rfl (by rfl) ?_ ?_ ?_
  rotate_left
  · intro w' hb
    clear hb
    go_simp
    with_reducible rfl
  rotate_left
  · simp only [Act.put, List.setIfInBounds_toArray, List.set_cons_zero, List.set_cons_succ, i64_w, i32_w]
    rfl
  refine wpQuiet_nil ?_
  intro w1 HB1
  replace AR := Aside0.mk (AR.out.below HB1)
  replace HS := Aside0.mk (HS.out.below HB1)
  replace HB := Aside0.mk (below_step HB.out HB1)
  clear HB1 q0 q1 q2
  have t0 := AR.out.t0
  have t1 := AR.out.t1
  have i0 := AR.out.i0
  have i1 := AR.out.i1
  have i2 := AR.out.i2
  have i3 := AR.out.i3
  go_wp2_with fail
  with_reducible refine (step_is HST.out _ HS.out).mono ?_
  rintro e w2 ⟨rfl, HB1⟩
  have HB2 := below_step HB1 (two_below w2 g' h' a1 a2)
  replace AR := Aside0.mk (AR.out.below HB2)
  replace HS := Aside0.mk (HS.out.below HB2)
  replace HB := Aside0.mk (below_step HB.out HB2)
  have TX := Aside0.mk (two_t w2 g' h' a1 a2)
  have OX := Aside0.mk (two_o w2 g' h' a1 a2)
  clear HB1 HB2 t0 t1 i0 i1 i2 i3
  have t0 := AR.out.t0
  have t1 := AR.out.t1
  have i0 := AR.out.i0
  have i1 := AR.out.i1
  have i2 := AR.out.i2
  have i3 := AR.out.i3
  go_wp2_with fail
  with_reducible refine (substationref29_Tele.calls 2 s wait guard g h z1 z2 rv rc g' h' a1 a2 _ (by rw [rtele_f 0, HST.out])).mono ?_
  rintro e w3 ⟨rfl, HB1⟩
  have HB2 := below_step HB1 (below_alloc (Below.refl w3.heap.size w3) (.cells #[.int .i64 g', .int .i64 h'] 23))
  replace AR := Aside0.mk (AR.out.below HB2)
  replace HS := Aside0.mk (HS.out.below HB2)
  replace HB := Aside0.mk (below_step HB.out HB2)
  replace TX := Aside0.mk (TX.out.below HB2)
  replace OX := Aside0.mk (OX.out.below HB2)
  have TY : Aside0 (Tb (w3.alloc (.cells #[.int .i64 g', .int .i64 h'] 23)) w3.heap.size g' h') := ⟨⟨heap_alloc_new w3 _⟩⟩
  clear HB1 HB2 t0 t1 i0 i1 i2 i3
  go_wp2_with fail
  generalize w3.alloc (.cells #[.int .i64 g', .int .i64 h'] 23) = W at *
  generalize w3.heap.size = yb at *
  generalize w2.heap.size + 1 = ob at *
  generalize w2.heap.size = xb at *
  have t0 := AR.out.t0
  have t1 := AR.out.t1
  have x0 := TX.out.c0
  have x1 := TX.out.c1
  have y0 := TY.out.c0
  have y1 := TY.out.c1
  have o0 := OX.out.c0
  have o1 := OX.out.c1
  have HV : Aside0 (∀ w', Below W.heap.size W w' → Calls Tryd.prog 11 #[.int .i64 s, .int .i64 wait, .int .i64 guard, tele g h] w' fun e w'' => e = .returned (.bool v) ∧ Below W.heap.size W w'') := ⟨fun w' hb => by
    have hc := valid_calls s wait guard g h w' (HS.out.below hb)
    rw [HVV.out] at hc
    exact hc.mono fun e w'' ⟨he, hb'⟩ => ⟨he, below_step hb hb'⟩⟩
  have HRV : Aside0 (∀ w', Below W.heap.size W w' → Calls Tryd.prog 13 #[.int .i64 s, .int .i64 wait, .int .i64 guard, tele g h] w' fun e w'' => e = .returned (.bool v) ∧ Below W.heap.size W w'') := ⟨fun w' hb =>
    (substationref29_ValidTele.calls 2 s wait guard g h v w' (by rw [rvalid_f 0, HVV.out])).mono fun e w'' ⟨he, hb'⟩ => ⟨he, below_step hb hb'⟩⟩
  cases v with
  | false =>
    refine Q.q_start (by kernel_rfl) (by kernel_rfl) ?_
    refine Q.q_call (N := some 47) (v := .bool true) (a' := ?_) 10 #[] rfl (by rfl) Tryd.func10 (by kernel_rfl) rfl (by rfl) (by first | rfl | (simp only [List.map_toArray, List.map_cons, List.map_nil]; done) | (simp only [List.map_toArray, List.map_cons, List.map_nil]; rfl)) (fun w' hb => (known_calls w' (HS.out.below hb)).mono fun e w'' ⟨he, hb'⟩ => ⟨he, below_step hb hb'⟩) ?_ ?_
    rotate_left
    · simp only [Act.put, List.setIfInBounds_toArray, List.set_cons_zero, List.set_cons_succ, i64_w, i32_w]
      rfl
    refine Q.q_value (N := some 48) (v := ?_) (a' := ?_) rfl (by rfl) ?_ ?_ ?_
    rotate_left
    · intro w' hb
      clear hb
      go_simp
      with_reducible rfl
    rotate_left
    · simp only [Act.put, List.setIfInBounds_toArray, List.set_cons_zero, List.set_cons_succ, i64_w, i32_w]
      rfl
    refine Q.q_value (N := some 49) (v := ?_) (a' := ?_) rfl (by rfl) ?_ ?_ ?_
    rotate_left
    · intro w' hb
      have s0 := pw_cell_below hb x0
      have s1 := pw_cell_below hb x1
      clear hb
      go_simp
      with_reducible rfl
    rotate_left
    · simp only [Act.put, List.setIfInBounds_toArray, List.set_cons_zero, List.set_cons_succ, i64_w, i32_w]
      rfl
    refine Q.q_value (N := some 50) (v := ?_) (a' := ?_) rfl (by rfl) ?_ ?_ ?_
    rotate_left
    · intro w' hb
      have s0 := pw_cell_below hb y0
      have s1 := pw_cell_below hb y1
      clear hb
      go_simp
      with_reducible rfl
    rotate_left
    · simp only [Act.put, List.setIfInBounds_toArray, List.set_cons_zero, List.set_cons_succ, i64_w, i32_w]
      rfl
    refine Q.q_value (N := some 51) (v := ?_) (a' := ?_) rfl (by rfl) ?_ ?_ ?_
    rotate_left
    · intro w' hb
      clear hb
      go_simp
      with_reducible rfl
    rotate_left
    · simp only [Act.put, List.setIfInBounds_toArray, List.set_cons_zero, List.set_cons_succ, i64_w, i32_w]
      rfl
    refine Q.q_value (N := some 52) (v := ?_) (a' := ?_) rfl (by rfl) ?_ ?_ ?_
    rotate_left
    · intro w' hb
      clear hb
      go_simp
      with_reducible rfl
    rotate_left
    · simp only [Act.put, List.setIfInBounds_toArray, List.set_cons_zero, List.set_cons_succ, i64_w, i32_w]
      rfl
    refine Q.q_value (N := some 53) (v := ?_) (a' := ?_) rfl (by rfl) ?_ ?_ ?_
    rotate_left
    · intro w' hb
      clear hb
      go_simp
      with_reducible rfl
    rotate_left
    · simp only [Act.put, List.setIfInBounds_toArray, List.set_cons_zero, List.set_cons_succ, i64_w, i32_w]
      rfl
    refine Q.q_value (N := some 54) (v := ?_) (a' := ?_) rfl (by rfl) ?_ ?_ ?_
    rotate_left
    · intro w' hb
      have s0 := pw_cell_below hb o0
      have s1 := pw_cell_below hb o1
      clear hb
      go_simp
      with_reducible rfl
    rotate_left
    · simp only [Act.put, List.setIfInBounds_toArray, List.set_cons_zero, List.set_cons_succ, i64_w, i32_w]
      rfl
    refine Q.q_value (N := some 55) (v := ?_) (a' := ?_) rfl (by rfl) ?_ ?_ ?_
    rotate_left
    · intro w' hb
      clear hb
      go_simp
      with_reducible rfl
    rotate_left
    · simp only [Act.put, List.setIfInBounds_toArray, List.set_cons_zero, List.set_cons_succ, i64_w, i32_w]
      rfl
    refine Q.q_value (N := some 56) (v := ?_) (a' := ?_) rfl (by rfl) ?_ ?_ ?_
    rotate_left
    · intro w' hb
      clear hb
      go_simp
      with_reducible rfl
    rotate_left
    · simp only [Act.put, List.setIfInBounds_toArray, List.set_cons_zero, List.set_cons_succ, i64_w, i32_w]
      rfl
    refine Q.q_value (N := some 57) (v := ?_) (a' := ?_) rfl (by rfl) ?_ ?_ ?_
    rotate_left
    · intro w' hb
      clear hb
      go_simp
      with_reducible rfl
    rotate_left
    · simp only [Act.put, List.setIfInBounds_toArray, List.set_cons_zero, List.set_cons_succ, i64_w, i32_w]
      rfl
    refine Q.q_value (N := some 58) (v := ?_) (a' := ?_) rfl (by rfl) ?_ ?_ ?_
    rotate_left
    · intro w' hb
      clear hb
      go_simp
      with_reducible rfl
    rotate_left
    · simp only [Act.put, List.setIfInBounds_toArray, List.set_cons_zero, List.set_cons_succ, i64_w, i32_w]
      rfl
    refine Q.q_value (N := some 59) (v := ?_) (a' := ?_) rfl (by rfl) ?_ ?_ ?_
    rotate_left
    · intro w' hb
      clear hb
      go_simp
      with_reducible rfl
    rotate_left
    · simp only [Act.put, List.setIfInBounds_toArray, List.set_cons_zero, List.set_cons_succ, i64_w, i32_w]
      rfl
    refine Q.q_value (N := some 60) (v := ?_) (a' := ?_) rfl (by rfl) ?_ ?_ ?_
    rotate_left
    · intro w' hb
      clear hb
      go_simp
      with_reducible rfl
    rotate_left
    · simp only [Act.put, List.setIfInBounds_toArray, List.set_cons_zero, List.set_cons_succ, i64_w, i32_w]
      rfl
    refine Q.q_value (N := some 61) (v := ?_) (a' := ?_) rfl (by rfl) ?_ ?_ ?_
    rotate_left
    · intro w' hb
      clear hb
      go_simp
      with_reducible rfl
    rotate_left
    · simp only [Act.put, List.setIfInBounds_toArray, List.set_cons_zero, List.set_cons_succ, i64_w, i32_w]
      rfl
    refine Q.q_value (N := some 62) (v := ?_) (a' := ?_) rfl (by rfl) ?_ ?_ ?_
    rotate_left
    · intro w' hb
      clear hb
      go_simp
      with_reducible rfl
    rotate_left
    · simp only [Act.put, List.setIfInBounds_toArray, List.set_cons_zero, List.set_cons_succ, i64_w, i32_w]
      rfl
    refine Q.q_value (N := some 63) (v := ?_) (a' := ?_) rfl (by rfl) ?_ ?_ ?_
    rotate_left
    · intro w' hb
      clear hb
      go_simp
      with_reducible rfl
    rotate_left
    · simp only [Act.put, List.setIfInBounds_toArray, List.set_cons_zero, List.set_cons_succ, i64_w, i32_w]
      rfl
    refine Q.q_value (N := some 64) (v := ?_) (a' := ?_) rfl (by rfl) ?_ ?_ ?_
    rotate_left
    · intro w' hb
      have s0 := pw_cell_below hb t0
      have s1 := pw_cell_below hb t1
      clear hb
      go_simp
      with_reducible rfl
    rotate_left
    · simp only [Act.put, List.setIfInBounds_toArray, List.set_cons_zero, List.set_cons_succ, i64_w, i32_w]
      rfl
    refine Q.q_call (N := some 65) (v := .bool false) (a' := ?_) 11 #[.int .i64 s, .int .i64 wait, .int .i64 guard, tele g h] rfl (by rfl) Tryd.func11 (by kernel_rfl) rfl (by rfl) (by first | rfl | (simp only [List.map_toArray, List.map_cons, List.map_nil]; done) | (simp only [List.map_toArray, List.map_cons, List.map_nil]; rfl)) (HV.out) ?_ ?_
    rotate_left
    · simp only [Act.put, List.setIfInBounds_toArray, List.set_cons_zero, List.set_cons_succ, i64_w, i32_w]
      rfl
    refine Q.q_value (N := some 66) (v := ?_) (a' := ?_) rfl (by rfl) ?_ ?_ ?_
    rotate_left
    · intro w' hb
      clear hb
      go_simp
      with_reducible rfl
    rotate_left
    · simp only [Act.put, List.setIfInBounds_toArray, List.set_cons_zero, List.set_cons_succ, i64_w, i32_w]
      rfl
    refine Q.q_value (N := some 67) (v := ?_) (a' := ?_) rfl (by rfl) ?_ ?_ ?_
    rotate_left
    · intro w' hb
      clear hb
      go_simp
      with_reducible rfl
    rotate_left
    · simp only [Act.put, List.setIfInBounds_toArray, List.set_cons_zero, List.set_cons_succ, i64_w, i32_w]
      rfl
    refine Q.q_value (N := some 68) (v := ?_) (a' := ?_) rfl (by rfl) ?_ ?_ ?_
    rotate_left
    · intro w' hb
      clear hb
      go_simp
      with_reducible rfl
    rotate_left
    · simp only [Act.put, List.setIfInBounds_toArray, List.set_cons_zero, List.set_cons_succ, i64_w, i32_w]
      rfl
    refine Q.q_value (N := some 69) (v := ?_) (a' := ?_) rfl (by rfl) ?_ ?_ ?_
    rotate_left
    · intro w' hb
      have s0 := pw_cell_below hb t0
      have s1 := pw_cell_below hb t1
      clear hb
      go_simp
      with_reducible rfl
    rotate_left
    · simp only [Act.put, List.setIfInBounds_toArray, List.set_cons_zero, List.set_cons_succ, i64_w, i32_w]
      rfl
    refine Q.q_call (N := some 70) (v := .bool false) (a' := ?_) 13 #[.int .i64 s, .int .i64 wait, .int .i64 guard, tele g h] rfl (by rfl) Tryd.func13 (by kernel_rfl) rfl (by rfl) (by first | rfl | (simp only [List.map_toArray, List.map_cons, List.map_nil]; done) | (simp only [List.map_toArray, List.map_cons, List.map_nil]; rfl)) (HRV.out) ?_ ?_
    rotate_left
    · simp only [Act.put, List.setIfInBounds_toArray, List.set_cons_zero, List.set_cons_succ, i64_w, i32_w]
      rfl
    refine Q.q_value (N := some 71) (v := ?_) (a' := ?_) rfl (by rfl) ?_ ?_ ?_
    rotate_left
    · intro w' hb
      clear hb
      go_simp
      with_reducible rfl
    rotate_left
    · simp only [Act.put, List.setIfInBounds_toArray, List.set_cons_zero, List.set_cons_succ, i64_w, i32_w]
      rfl
    refine Q.q_value (N := some 72) (v := ?_) (a' := ?_) rfl (by rfl) ?_ ?_ ?_
    rotate_left
    · intro w' hb
      clear hb
      go_simp
      with_reducible rfl
    rotate_left
    · simp only [Act.put, List.setIfInBounds_toArray, List.set_cons_zero, List.set_cons_succ, i64_w, i32_w]
      rfl
    refine Q.q_value (N := some 73) (v := ?_) (a' := ?_) rfl (by rfl) ?_ ?_ ?_
    rotate_left
    · intro w' hb
      clear hb
      go_simp
      with_reducible rfl
    rotate_left
    · simp only [Act.put, List.setIfInBounds_toArray, List.set_cons_zero, List.set_cons_succ, i64_w, i32_w]
      rfl
    refine Q.q_value (N := some 74) (v := ?_) (a' := ?_) rfl (by rfl) ?_ ?_ ?_
    rotate_left
    · intro w' hb
      clear hb
      go_simp
      with_reducible rfl
    rotate_left
    · simp only [Act.put, List.setIfInBounds_toArray, List.set_cons_zero, List.set_cons_succ, i64_w, i32_w]
      rfl
    refine Q.q_value (N := some 75) (v := ?_) (a' := ?_) rfl (by rfl) ?_ ?_ ?_
    rotate_left
    · intro w' hb
      clear hb
      go_simp
      with_reducible rfl
    rotate_left
    · simp only [Act.put, List.setIfInBounds_toArray, List.set_cons_zero, List.set_cons_succ, i64_w, i32_w]
      rfl
    refine Q.q_value (N := some 76) (v := ?_) (a' := ?_) rfl (by rfl) ?_ ?_ ?_
    rotate_left
    · intro w' hb
      clear hb
      go_simp
      with_reducible rfl
    rotate_left
    · simp only [Act.put, List.setIfInBounds_toArray, List.set_cons_zero, List.set_cons_succ, i64_w, i32_w]
      rfl
    refine Q.q_value (N := some 77) (v := ?_) (a' := ?_) rfl (by rfl) ?_ ?_ ?_
    rotate_left
    · intro w' hb
      have s0 := pw_cell_below hb t0
      have s1 := pw_cell_below hb t1
      clear hb
      go_simp
      with_reducible rfl
    rotate_left
    · simp only [Act.put, List.setIfInBounds_toArray, List.set_cons_zero, List.set_cons_succ, i64_w, i32_w]
      rfl
    refine Q.q_call (N := some 78) (v := .bool false) (a' := ?_) 11 #[.int .i64 s, .int .i64 wait, .int .i64 guard, tele g h] rfl (by rfl) Tryd.func11 (by kernel_rfl) rfl (by rfl) (by first | rfl | (simp only [List.map_toArray, List.map_cons, List.map_nil]; done) | (simp only [List.map_toArray, List.map_cons, List.map_nil]; rfl)) (HV.out) ?_ ?_
    rotate_left
    · simp only [Act.put, List.setIfInBounds_toArray, List.set_cons_zero, List.set_cons_succ, i64_w, i32_w]
      rfl
    refine Q.q_value (N := some 79) (v := ?_) (a' := ?_) rfl (by rfl) ?_ ?_ ?_
    rotate_left
    · intro w' hb
      clear hb
      go_simp
      with_reducible rfl
    rotate_left
    · simp only [Act.put, List.setIfInBounds_toArray, List.set_cons_zero, List.set_cons_succ, i64_w, i32_w]
      rfl
    refine Q.q_value (N := some 80) (v := ?_) (a' := ?_) rfl (by rfl) ?_ ?_ ?_
    rotate_left
    · intro w' hb
      clear hb
      go_simp
      with_reducible rfl
    rotate_left
    · simp only [Act.put, List.setIfInBounds_toArray, List.set_cons_zero, List.set_cons_succ, i64_w, i32_w]
      rfl
    refine Q.q_off (N := some 81) (a' := ?_) rfl (by rfl) ?_ ?_
    rotate_left
    · simp only [Act.put, List.setIfInBounds_toArray, List.set_cons_zero, List.set_cons_succ, i64_w, i32_w]
      rfl
    refine Q.q_off (N := some 82) (a' := ?_) rfl (by rfl) ?_ ?_
    rotate_left
    · simp only [Act.put, List.setIfInBounds_toArray, List.set_cons_zero, List.set_cons_succ, i64_w, i32_w]
      rfl
    refine Q.q_off (N := some 83) (a' := ?_) rfl (by rfl) ?_ ?_
    rotate_left
    · simp only [Act.put, List.setIfInBounds_toArray, List.set_cons_zero, List.set_cons_succ, i64_w, i32_w]
      rfl
    refine Q.q_off (N := some 84) (a' := ?_) rfl (by rfl) ?_ ?_
    rotate_left
    · simp only [Act.put, List.setIfInBounds_toArray, List.set_cons_zero, List.set_cons_succ, i64_w, i32_w]
      rfl
    refine Q.q_off (N := some 85) (a' := ?_) rfl (by rfl) ?_ ?_
    rotate_left
    · simp only [Act.put, List.setIfInBounds_toArray, List.set_cons_zero, List.set_cons_succ, i64_w, i32_w]
      rfl
    refine Q.q_value (N := some 86) (v := ?_) (a' := ?_) rfl (by rfl) ?_ ?_ ?_
    rotate_left
    · intro w' hb
      clear hb
      go_simp
      with_reducible rfl
    rotate_left
    · simp only [Act.put, List.setIfInBounds_toArray, List.set_cons_zero, List.set_cons_succ, i64_w, i32_w]
      rfl
    refine Q.q_value (N := some 87) (v := ?_) (a' := ?_) rfl (by rfl) ?_ ?_ ?_
    rotate_left
    · intro w' hb
      clear hb
      go_simp
      with_reducible rfl
    rotate_left
    · simp only [Act.put, List.setIfInBounds_toArray, List.set_cons_zero, List.set_cons_succ, i64_w, i32_w]
      rfl
    refine Q.q_value (N := some 6) (v := ?_) (a' := ?_) rfl (by rfl) ?_ ?_ ?_
    rotate_left
    · intro w' hb
      clear hb
      go_simp
      with_reducible rfl
    rotate_left
    · simp only [Act.put, List.setIfInBounds_toArray, List.set_cons_zero, List.set_cons_succ, i64_w, i32_w]
      rfl
    refine wpQuiet_nil ?_
    intro w9 HB9
    replace HB := Aside0.mk (below_step HB.out HB9)
    clear HB9
    go_wp2_with fail
    go_ret
    exact ⟨rfl, HB.out⟩
  | true =>
    have HVX : Aside0 (∀ w', Below W.heap.size W w' → Calls Tryd.prog 11 #[.int .i64 s, .int .i64 wait, .int .i64 guard, tele g' h'] w' fun e w'' => e = .returned (.bool true) ∧ Below W.heap.size W w'') := ⟨fun w' hb => by
      have hc := valid_calls s wait guard g' h' w' (HS.out.below hb)
      have hv := valid_step s wait guard g h z1 z2 rv rc HVV.out
      rw [HST.out] at hv
      rw [show validB s wait guard g' h' = true from hv] at hc
      exact hc.mono fun e w'' ⟨he, hb'⟩ => ⟨he, below_step hb hb'⟩⟩
    refine Q.q_start (by kernel_rfl) (by kernel_rfl) ?_
    refine Q.q_call (N := some 47) (v := .bool true) (a' := ?_) 10 #[] rfl (by rfl) Tryd.func10 (by kernel_rfl) rfl (by rfl) (by first | rfl | (simp only [List.map_toArray, List.map_cons, List.map_nil]; done) | (simp only [List.map_toArray, List.map_cons, List.map_nil]; rfl)) (fun w' hb => (known_calls w' (HS.out.below hb)).mono fun e w'' ⟨he, hb'⟩ => ⟨he, below_step hb hb'⟩) ?_ ?_
    rotate_left
    · simp only [Act.put, List.setIfInBounds_toArray, List.set_cons_zero, List.set_cons_succ, i64_w, i32_w]
      rfl
    refine Q.q_value (N := some 48) (v := ?_) (a' := ?_) rfl (by rfl) ?_ ?_ ?_
    rotate_left
    · intro w' hb
      clear hb
      go_simp
      with_reducible rfl
    rotate_left
    · simp only [Act.put, List.setIfInBounds_toArray, List.set_cons_zero, List.set_cons_succ, i64_w, i32_w]
      rfl
    refine Q.q_value (N := some 49) (v := ?_) (a' := ?_) rfl (by rfl) ?_ ?_ ?_
    rotate_left
    · intro w' hb
      have s0 := pw_cell_below hb x0
      have s1 := pw_cell_below hb x1
      clear hb
      go_simp
      with_reducible rfl
    rotate_left
    · simp only [Act.put, List.setIfInBounds_toArray, List.set_cons_zero, List.set_cons_succ, i64_w, i32_w]
      rfl
    refine Q.q_value (N := some 50) (v := ?_) (a' := ?_) rfl (by rfl) ?_ ?_ ?_
    rotate_left
    · intro w' hb
      have s0 := pw_cell_below hb y0
      have s1 := pw_cell_below hb y1
      clear hb
      go_simp
      with_reducible rfl
    rotate_left
    · simp only [Act.put, List.setIfInBounds_toArray, List.set_cons_zero, List.set_cons_succ, i64_w, i32_w]
      rfl
    refine Q.q_value (N := some 51) (v := ?_) (a' := ?_) rfl (by rfl) ?_ ?_ ?_
    rotate_left
    · intro w' hb
      clear hb
      go_simp
      with_reducible rfl
    rotate_left
    · simp only [Act.put, List.setIfInBounds_toArray, List.set_cons_zero, List.set_cons_succ, i64_w, i32_w]
      rfl
    refine Q.q_value (N := some 52) (v := ?_) (a' := ?_) rfl (by rfl) ?_ ?_ ?_
    rotate_left
    · intro w' hb
      clear hb
      go_simp
      with_reducible rfl
    rotate_left
    · simp only [Act.put, List.setIfInBounds_toArray, List.set_cons_zero, List.set_cons_succ, i64_w, i32_w]
      rfl
    refine Q.q_value (N := some 53) (v := ?_) (a' := ?_) rfl (by rfl) ?_ ?_ ?_
    rotate_left
    · intro w' hb
      clear hb
      go_simp
      with_reducible rfl
    rotate_left
    · simp only [Act.put, List.setIfInBounds_toArray, List.set_cons_zero, List.set_cons_succ, i64_w, i32_w]
      rfl
    refine Q.q_value (N := some 54) (v := ?_) (a' := ?_) rfl (by rfl) ?_ ?_ ?_
    rotate_left
    · intro w' hb
      have s0 := pw_cell_below hb o0
      have s1 := pw_cell_below hb o1
      clear hb
      go_simp
      with_reducible rfl
    rotate_left
    · simp only [Act.put, List.setIfInBounds_toArray, List.set_cons_zero, List.set_cons_succ, i64_w, i32_w]
      rfl
    refine Q.q_value (N := some 55) (v := ?_) (a' := ?_) rfl (by rfl) ?_ ?_ ?_
    rotate_left
    · intro w' hb
      clear hb
      go_simp
      with_reducible rfl
    rotate_left
    · simp only [Act.put, List.setIfInBounds_toArray, List.set_cons_zero, List.set_cons_succ, i64_w, i32_w]
      rfl
    refine Q.q_value (N := some 56) (v := ?_) (a' := ?_) rfl (by rfl) ?_ ?_ ?_
    rotate_left
    · intro w' hb
      clear hb
      go_simp
      with_reducible rfl
    rotate_left
    · simp only [Act.put, List.setIfInBounds_toArray, List.set_cons_zero, List.set_cons_succ, i64_w, i32_w]
      rfl
    refine Q.q_value (N := some 57) (v := ?_) (a' := ?_) rfl (by rfl) ?_ ?_ ?_
    rotate_left
    · intro w' hb
      clear hb
      go_simp
      with_reducible rfl
    rotate_left
    · simp only [Act.put, List.setIfInBounds_toArray, List.set_cons_zero, List.set_cons_succ, i64_w, i32_w]
      rfl
    refine Q.q_value (N := some 58) (v := ?_) (a' := ?_) rfl (by rfl) ?_ ?_ ?_
    rotate_left
    · intro w' hb
      clear hb
      go_simp
      with_reducible rfl
    rotate_left
    · simp only [Act.put, List.setIfInBounds_toArray, List.set_cons_zero, List.set_cons_succ, i64_w, i32_w]
      rfl
    refine Q.q_value (N := some 59) (v := ?_) (a' := ?_) rfl (by rfl) ?_ ?_ ?_
    rotate_left
    · intro w' hb
      clear hb
      go_simp
      with_reducible rfl
    rotate_left
    · simp only [Act.put, List.setIfInBounds_toArray, List.set_cons_zero, List.set_cons_succ, i64_w, i32_w]
      rfl
    refine Q.q_value (N := some 60) (v := ?_) (a' := ?_) rfl (by rfl) ?_ ?_ ?_
    rotate_left
    · intro w' hb
      clear hb
      go_simp
      with_reducible rfl
    rotate_left
    · simp only [Act.put, List.setIfInBounds_toArray, List.set_cons_zero, List.set_cons_succ, i64_w, i32_w]
      rfl
    refine Q.q_value (N := some 61) (v := ?_) (a' := ?_) rfl (by rfl) ?_ ?_ ?_
    rotate_left
    · intro w' hb
      clear hb
      go_simp
      with_reducible rfl
    rotate_left
    · simp only [Act.put, List.setIfInBounds_toArray, List.set_cons_zero, List.set_cons_succ, i64_w, i32_w]
      rfl
    refine Q.q_value (N := some 62) (v := ?_) (a' := ?_) rfl (by rfl) ?_ ?_ ?_
    rotate_left
    · intro w' hb
      clear hb
      go_simp
      with_reducible rfl
    rotate_left
    · simp only [Act.put, List.setIfInBounds_toArray, List.set_cons_zero, List.set_cons_succ, i64_w, i32_w]
      rfl
    refine Q.q_value (N := some 63) (v := ?_) (a' := ?_) rfl (by rfl) ?_ ?_ ?_
    rotate_left
    · intro w' hb
      clear hb
      go_simp
      with_reducible rfl
    rotate_left
    · simp only [Act.put, List.setIfInBounds_toArray, List.set_cons_zero, List.set_cons_succ, i64_w, i32_w]
      rfl
    refine Q.q_value (N := some 64) (v := ?_) (a' := ?_) rfl (by rfl) ?_ ?_ ?_
    rotate_left
    · intro w' hb
      have s0 := pw_cell_below hb t0
      have s1 := pw_cell_below hb t1
      clear hb
      go_simp
      with_reducible rfl
    rotate_left
    · simp only [Act.put, List.setIfInBounds_toArray, List.set_cons_zero, List.set_cons_succ, i64_w, i32_w]
      rfl
    refine Q.q_call (N := some 65) (v := .bool true) (a' := ?_) 11 #[.int .i64 s, .int .i64 wait, .int .i64 guard, tele g h] rfl (by rfl) Tryd.func11 (by kernel_rfl) rfl (by rfl) (by first | rfl | (simp only [List.map_toArray, List.map_cons, List.map_nil]; done) | (simp only [List.map_toArray, List.map_cons, List.map_nil]; rfl)) (HV.out) ?_ ?_
    rotate_left
    · simp only [Act.put, List.setIfInBounds_toArray, List.set_cons_zero, List.set_cons_succ, i64_w, i32_w]
      rfl
    refine Q.q_value (N := some 66) (v := ?_) (a' := ?_) rfl (by rfl) ?_ ?_ ?_
    rotate_left
    · intro w' hb
      clear hb
      go_simp
      with_reducible rfl
    rotate_left
    · simp only [Act.put, List.setIfInBounds_toArray, List.set_cons_zero, List.set_cons_succ, i64_w, i32_w]
      rfl
    refine Q.q_value (N := some 67) (v := ?_) (a' := ?_) rfl (by rfl) ?_ ?_ ?_
    rotate_left
    · intro w' hb
      clear hb
      go_simp
      with_reducible rfl
    rotate_left
    · simp only [Act.put, List.setIfInBounds_toArray, List.set_cons_zero, List.set_cons_succ, i64_w, i32_w]
      rfl
    refine Q.q_value (N := some 68) (v := ?_) (a' := ?_) rfl (by rfl) ?_ ?_ ?_
    rotate_left
    · intro w' hb
      clear hb
      go_simp
      with_reducible rfl
    rotate_left
    · simp only [Act.put, List.setIfInBounds_toArray, List.set_cons_zero, List.set_cons_succ, i64_w, i32_w]
      rfl
    refine Q.q_value (N := some 69) (v := ?_) (a' := ?_) rfl (by rfl) ?_ ?_ ?_
    rotate_left
    · intro w' hb
      have s0 := pw_cell_below hb t0
      have s1 := pw_cell_below hb t1
      clear hb
      go_simp
      with_reducible rfl
    rotate_left
    · simp only [Act.put, List.setIfInBounds_toArray, List.set_cons_zero, List.set_cons_succ, i64_w, i32_w]
      rfl
    refine Q.q_call (N := some 70) (v := .bool true) (a' := ?_) 13 #[.int .i64 s, .int .i64 wait, .int .i64 guard, tele g h] rfl (by rfl) Tryd.func13 (by kernel_rfl) rfl (by rfl) (by first | rfl | (simp only [List.map_toArray, List.map_cons, List.map_nil]; done) | (simp only [List.map_toArray, List.map_cons, List.map_nil]; rfl)) (HRV.out) ?_ ?_
    rotate_left
    · simp only [Act.put, List.setIfInBounds_toArray, List.set_cons_zero, List.set_cons_succ, i64_w, i32_w]
      rfl
    refine Q.q_value (N := some 71) (v := ?_) (a' := ?_) rfl (by rfl) ?_ ?_ ?_
    rotate_left
    · intro w' hb
      clear hb
      go_simp
      with_reducible rfl
    rotate_left
    · simp only [Act.put, List.setIfInBounds_toArray, List.set_cons_zero, List.set_cons_succ, i64_w, i32_w]
      rfl
    refine Q.q_value (N := some 72) (v := ?_) (a' := ?_) rfl (by rfl) ?_ ?_ ?_
    rotate_left
    · intro w' hb
      clear hb
      go_simp
      with_reducible rfl
    rotate_left
    · simp only [Act.put, List.setIfInBounds_toArray, List.set_cons_zero, List.set_cons_succ, i64_w, i32_w]
      rfl
    refine Q.q_value (N := some 73) (v := ?_) (a' := ?_) rfl (by rfl) ?_ ?_ ?_
    rotate_left
    · intro w' hb
      clear hb
      go_simp
      with_reducible rfl
    rotate_left
    · simp only [Act.put, List.setIfInBounds_toArray, List.set_cons_zero, List.set_cons_succ, i64_w, i32_w]
      rfl
    refine Q.q_value (N := some 74) (v := ?_) (a' := ?_) rfl (by rfl) ?_ ?_ ?_
    rotate_left
    · intro w' hb
      clear hb
      go_simp
      with_reducible rfl
    rotate_left
    · simp only [Act.put, List.setIfInBounds_toArray, List.set_cons_zero, List.set_cons_succ, i64_w, i32_w]
      rfl
    refine Q.q_value (N := some 75) (v := ?_) (a' := ?_) rfl (by rfl) ?_ ?_ ?_
    rotate_left
    · intro w' hb
      clear hb
      go_simp
      with_reducible rfl
    rotate_left
    · simp only [Act.put, List.setIfInBounds_toArray, List.set_cons_zero, List.set_cons_succ, i64_w, i32_w]
      rfl
    refine Q.q_value (N := some 76) (v := ?_) (a' := ?_) rfl (by rfl) ?_ ?_ ?_
    rotate_left
    · intro w' hb
      clear hb
      go_simp
      with_reducible rfl
    rotate_left
    · simp only [Act.put, List.setIfInBounds_toArray, List.set_cons_zero, List.set_cons_succ, i64_w, i32_w]
      rfl
    refine Q.q_value (N := some 77) (v := ?_) (a' := ?_) rfl (by rfl) ?_ ?_ ?_
    rotate_left
    · intro w' hb
      have s0 := pw_cell_below hb t0
      have s1 := pw_cell_below hb t1
      clear hb
      go_simp
      with_reducible rfl
    rotate_left
    · simp only [Act.put, List.setIfInBounds_toArray, List.set_cons_zero, List.set_cons_succ, i64_w, i32_w]
      rfl
    refine Q.q_call (N := some 78) (v := .bool true) (a' := ?_) 11 #[.int .i64 s, .int .i64 wait, .int .i64 guard, tele g h] rfl (by rfl) Tryd.func11 (by kernel_rfl) rfl (by rfl) (by first | rfl | (simp only [List.map_toArray, List.map_cons, List.map_nil]; done) | (simp only [List.map_toArray, List.map_cons, List.map_nil]; rfl)) (HV.out) ?_ ?_
    rotate_left
    · simp only [Act.put, List.setIfInBounds_toArray, List.set_cons_zero, List.set_cons_succ, i64_w, i32_w]
      rfl
    refine Q.q_value (N := some 79) (v := ?_) (a' := ?_) rfl (by rfl) ?_ ?_ ?_
    rotate_left
    · intro w' hb
      clear hb
      go_simp
      with_reducible rfl
    rotate_left
    · simp only [Act.put, List.setIfInBounds_toArray, List.set_cons_zero, List.set_cons_succ, i64_w, i32_w]
      rfl
    refine Q.q_value (N := some 80) (v := ?_) (a' := ?_) rfl (by rfl) ?_ ?_ ?_
    rotate_left
    · intro w' hb
      clear hb
      go_simp
      with_reducible rfl
    rotate_left
    · simp only [Act.put, List.setIfInBounds_toArray, List.set_cons_zero, List.set_cons_succ, i64_w, i32_w]
      rfl
    refine Q.q_value (N := some 81) (v := ?_) (a' := ?_) rfl (by rfl) ?_ ?_ ?_
    rotate_left
    · intro w' hb
      clear hb
      go_simp
      with_reducible rfl
    rotate_left
    · simp only [Act.put, List.setIfInBounds_toArray, List.set_cons_zero, List.set_cons_succ, i64_w, i32_w]
      rfl
    refine Q.q_value (N := some 82) (v := ?_) (a' := ?_) rfl (by rfl) ?_ ?_ ?_
    rotate_left
    · intro w' hb
      clear hb
      go_simp
      with_reducible rfl
    rotate_left
    · simp only [Act.put, List.setIfInBounds_toArray, List.set_cons_zero, List.set_cons_succ, i64_w, i32_w]
      rfl
    refine Q.q_value (N := some 83) (v := ?_) (a' := ?_) rfl (by rfl) ?_ ?_ ?_
    rotate_left
    · intro w' hb
      clear hb
      go_simp
      with_reducible rfl
    rotate_left
    · simp only [Act.put, List.setIfInBounds_toArray, List.set_cons_zero, List.set_cons_succ, i64_w, i32_w]
      rfl
    refine Q.q_value (N := some 84) (v := ?_) (a' := ?_) rfl (by rfl) ?_ ?_ ?_
    rotate_left
    · intro w' hb
      have s0 := pw_cell_below hb x0
      have s1 := pw_cell_below hb x1
      clear hb
      go_simp
      with_reducible rfl
    rotate_left
    · simp only [Act.put, List.setIfInBounds_toArray, List.set_cons_zero, List.set_cons_succ, i64_w, i32_w]
      rfl
    refine Q.q_call (N := some 85) (v := .bool true) (a' := ?_) 11 #[.int .i64 s, .int .i64 wait, .int .i64 guard, tele g' h'] rfl (by rfl) Tryd.func11 (by kernel_rfl) rfl (by rfl) (by first | rfl | (simp only [List.map_toArray, List.map_cons, List.map_nil]; done) | (simp only [List.map_toArray, List.map_cons, List.map_nil]; rfl)) (HVX.out) ?_ ?_
    rotate_left
    · simp only [Act.put, List.setIfInBounds_toArray, List.set_cons_zero, List.set_cons_succ, i64_w, i32_w]
      rfl
    refine Q.q_value (N := some 86) (v := ?_) (a' := ?_) rfl (by rfl) ?_ ?_ ?_
    rotate_left
    · intro w' hb
      clear hb
      go_simp
      with_reducible rfl
    rotate_left
    · simp only [Act.put, List.setIfInBounds_toArray, List.set_cons_zero, List.set_cons_succ, i64_w, i32_w]
      rfl
    refine Q.q_value (N := some 87) (v := ?_) (a' := ?_) rfl (by rfl) ?_ ?_ ?_
    rotate_left
    · intro w' hb
      clear hb
      go_simp
      with_reducible rfl
    rotate_left
    · simp only [Act.put, List.setIfInBounds_toArray, List.set_cons_zero, List.set_cons_succ, i64_w, i32_w]
      rfl
    refine Q.q_value (N := some 6) (v := ?_) (a' := ?_) rfl (by rfl) ?_ ?_ ?_
    rotate_left
    · intro w' hb
      clear hb
      go_simp
      with_reducible rfl
    rotate_left
    · simp only [Act.put, List.setIfInBounds_toArray, List.set_cons_zero, List.set_cons_succ, i64_w, i32_w]
      rfl
    refine wpQuiet_nil ?_
    intro w9 HB9
    replace HB := Aside0.mk (below_step HB.out HB9)
    clear HB9
    go_wp2_with fail
    go_ret
    exact ⟨rfl, HB.out⟩
end Go.Proofs.YthnbokmnplipkaaDoor.A
