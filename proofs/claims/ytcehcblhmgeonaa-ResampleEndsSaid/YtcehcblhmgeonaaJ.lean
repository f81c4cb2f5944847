import Derived.Test.YtcehcblhmgeonaaG
import Derived.StillTailTactics
import Derived.WalkMore
/- The contracts of Shift; no condition. -/
namespace Go.Proofs.Ytcehcblhmgeonaa.A
open Go.RowKit Go.Proofs.YtcehcblhmgeonaaW.PrintWords Go.Proofs.YtcehcblhmgeonaaW.PrintLast Go.Proofs.YtcehcblhmgeonaaW.PrintMore
attribute [local go_sem] max2_int min2_int max_two min_two max_three min_three max_four min_four
set_option linter.unusedVariables false
set_option linter.unusedSimpArgs false

/-- Value k of Shift. -/
def shV (l : List Int) (num den : Int) (k : Nat) : Int :=
  if 1 ≤ k ∧ k + 2 < l.length then nearV (cubA (l.getD (k - 1) 0) (l.getD k 0) (l.getD (k + 1) 0) (l.getD (k + 2) 0) num den) (cubB (l.getD (k - 1) 0) (l.getD k 0) (l.getD (k + 1) 0) (l.getD (k + 2) 0) num den)
  else nearV (linA (l.getD k 0) (l.getD (k + 1) 0) num den) (linB (l.getD k 0) (l.getD (k + 1) 0) num den)
def shL (l : List Int) (num den : Int) : List Int := (List.range (l.length - 1)).map (shV l num den)
def shOk (l : List Int) (num den : Int) : Bool := decide (2 ≤ l.length) && decide (l.length ≤ 240) && l.all inS && frac num den
def shOut (l : List Int) (num den : Int) : List Int := if shOk l num den = true then shL l num den else []

/-- A whole array read at any address. -/
theorem run_load_arr (w : World) (p : Addr) (ty : TypeId) (cs : List Value) (n : Nat) (e : TypeId) (hc : ∀ j v, cs[j]? = some v → w.cell? (p.add j) = some v)
    (hu : Try.prog.underlying ty = some (.array n e)) (hi : (Try.prog.info? ty).map (·.size) = some cs.length) :
    (loadVar ty p).run Try.prog w = .ok (.agg cs.toArray) w := by
  have hl : (loadCells p cs.length).run Try.prog w = .ok cs.toArray w := run_loadCells_list (P := Try.prog) w p cs hc
  cases hq : Try.prog.info? ty with
  | none => simp [hq] at hi
  | some i =>
    have hs : i.size = cs.length := by simpa [hq] using hi
    have hagg : (isAgg ty).run Try.prog w = .ok true w := by
      unfold isAgg
      rw [Sem.run_bind, run_underlying hu w]
      simp
    simp [loadVar, Sem.run_bind, hagg, sizeOf, typeInfo, hq, hs, hl]
theorem wpList_load_arr {ops : Array Oper} {rest : List Oper} {o : Oper} {a : Act} {w : World} {Q : Exit → Act → World → Prop} (hgd : o.guard = none) (ty : TypeId) (x : Operand) (ho : o.op = .load ty x)
    (p : Addr) (hx : a.eval x = .pointer (some p)) (cs : List Value) (n : Nat) (e : TypeId) (hc : ∀ j v, cs[j]? = some v → w.cell? (p.add j) = some v)
    (hu : Try.prog.underlying ty = some (.array n e)) (hi : (Try.prog.info? ty).map (·.size) = some cs.length)
    (h : wpList Try.prog ops Q rest (a.put o.dst (.agg cs.toArray)) w) : wpList Try.prog ops Q (o :: rest) a w :=
  wpList_plain hgd fun _ hK => by
    unfold Oper.wp execOp
    simp only [ho, hx, Instr.loadAt, Instr.sureAddr, Sem.run_bind, Sem.run_pure, Result.andThen_ok, run_load_arr w p ty cs n e hc hu hi]
    exact hK _ _ h
theorem run_arr (A : Option Addr) (c : Nat) (W : World) : (Instr.arrayAt 22 (.slice A 4 c)).run Try.prog W = .ok (.pointer A) W := by
  kernel_rfl

theorem put_step (xs : List Int) (m k : Nat) (hm : xs.length = m) (hk : k < m) (V : Int) (hV : xs.getD k 0 = V) :
    (xs.take k ++ List.replicate (m - k) 0).set k V = xs.take (k + 1) ++ List.replicate (m - (k + 1)) 0 := by
  have e : m - k = (m - (k + 1)) + 1 := by omega
  rw [e, List.replicate_succ, List.set_append_right _ _ (by simp; omega), List.length_take, Nat.min_eq_left (by omega), Nat.sub_self, List.set_cons_zero,
    List.take_succ_eq_append_getElem (by omega), List.append_assoc]
  have : xs[k]'(by omega) = V := by rw [← hV]; simp [List.getD_eq_getElem?_getD, List.getElem?_eq_getElem (show k < xs.length by omega)]
  rw [this]; rfl
theorem shL_at (l : List Int) (num den : Int) (k : Nat) (hk : k < l.length - 1) : (shL l num den).getD k 0 = shV l num den k := by
  simp [shL, List.getD_eq_getElem?_getD, hk]

theorem zero_int : (Try.prog.info? 3).map (fun i => (i.zero, i.size, i.bytes)) = some (some (.int .i64 0), 1, 8) := by kernel_rfl

set_option maxHeartbeats 2000000 in
set_option maxRecDepth 100000 in
theorem shift_ok (A0 : Option Addr) (c0 : Nat) (l : List Int) (num den : Int) (w : World) (hr : Kd.C (Kd.int .i64) w A0 l.length l) (hc : l.length ≤ c0) (h : shOk l num den = true) :
    Calls Try.prog 20 #[.slice A0 l.length c0, .int .i64 num, .int .i64 den] w fun e w' =>
      ∃ v, e = .returned (.tuple #[v, .int .i64 0]) ∧ Kd.R (Kd.int .i64) 3 w' w.heap.size (fun _ => True) v (shL l num den) ∧ Below w.heap.size w w' := by
  have hh := h
  simp only [shOk, Bool.and_eq_true, decide_eq_true_eq] at hh
  obtain ⟨⟨⟨l2, l240⟩, hs⟩, hf⟩ := hh
  have HR := Aside0.mk hr
  have HC := Aside0.mk hc
  have HS := Aside0.mk hs
  have HF := Aside0.mk hf
  have HH := Aside0.mk h
  clear hr hc hs hf h
  have f1 : decide ((l.length : Int) < 2) = false := by simp; omega
  have f2 : decide (240 < (l.length : Int)) = false := by simp; omega
  have f1' : decide (l.length < 2) = false := by simp; omega
  have f2' : decide (240 < l.length) = false := by simp; omega
  go_enter Try.func20, Try.ntmps20
  go_wp2_with fail
  go_step3
  go_wp2_with fail
  refine (samples_calls _ _ _ _ HR.out HC.out (by omega)).mono ?_
  rw [HS.out]
  rintro e w' ⟨rfl, ⟨nd, rfl⟩⟩
  go_wp2_with fail
  refine (frac_calls _ _ _).mono ?_
  rw [HF.out]
  rintro e w' ⟨rfl, ⟨nd2, rfl⟩⟩
  go_wp2_with ((with_reducible refine gate_dst (N := 38) rfl ?_); refine Kd.R_make (Kd.int .i64) w.heap.size 3 rfl (N := 38) rfl 35 _ _ rfl ((l.length : Int) - 1) rfl rfl Try.underlying35 (.int .i64 0) 8 zero_int rfl (by decide) (by decide) 0 (okp := fun _ => True) (ok := fun _ => True) rfl (fun _ h => h) trivial (by omega) (by omega) (pw_below_drewN (Below.refl w.heap.size w) _) (by simp) ?_; intro v1 w1 hr1 hb1 hg1 hn1; clear hg1 hn1; obtain ⟨g, cap, rfl, hg0, hg1, _⟩ := Kd.R_form hr1 (by simp; omega); have HO := Aside0.mk hr1; have HB := Aside0.mk hb1; clear hr1 hb1)
  go_step3
  go_wp2_with fail
  rw [show ((l.length : Int) - 1).toNat = l.length - 1 by omega] at HO
  have hl1 : (shL l num den).length = l.length - 1 := by simp [shL]
  have HL1 := Aside0.mk hl1
  clear hl1
  go_loopw [41] (fun i wr => ∃ k : Nat, k ≤ l.length - 1 ∧ i = .int .i64 k ∧ Aside0 (Kd.R (Kd.int .i64) 3 wr w.heap.size (fun _ => True) (.slice (some ⟨g, 0, none⟩) (l.length - 1) cap) ((shL l num den).take k ++ List.replicate (l.length - 1 - k) 0)) ∧ Aside0 (Below w.heap.size w wr))
    (fun i _ => l.length - 1 - (intOf i).toNat)
  case atStart => exact ⟨0, by omega, rfl, ⟨by simpa using HO.out⟩, HB⟩
  case round =>
    clear HO HB
    obtain ⟨k, hk, rfl, HO, HB⟩ := hrel
    have HC2 := Aside0.mk (Kd.C_below HR.out HB.out)
    by_cases hlt : k < l.length - 1
    · have t1 : decide ((k : Int) < ((l.length - 1 : Nat) : Int)) = true := by simp; omega
      have t1' : decide (k < l.length - 1) = true := by simp; omega
      by_cases hm : 1 ≤ k ∧ k + 2 < l.length
      · obtain ⟨m1, m2⟩ := hm
        have t2 : decide ((0 : Int) < (k : Int)) = true := by simp; omega
        have t3 : decide ((k : Int) + 2 < (l.length : Int)) = true := by simp; omega
        obtain ⟨i0, hi, hz0, hz1, hz2⟩ := info_parts zero_int
        obtain ⟨A', hrun, hread, -⟩ := print_mid_int (P := Try.prog) (k := .i64) 35 3 Try.underlying35 hi hz1 A0 c0 l ((k : Int) - 1) ((k : Int) + 3) (by omega) (by omega) (by omega) HC.out
        have hrd := hread wr (readsInt_of.2 (Kd.reads_of_C (enc := Value.int .i64) (d := (0 : Int)) (h1 := fun _ => rfl) HC2.out))
        have h4 : ((l.take ((k : Int) + 3).toNat).drop ((k : Int) - 1).toNat).length = 4 := by simp; omega
        obtain ⟨ad, rfl, hcell⟩ := hrd.2.2 (by omega)
        have hvals : ∀ j v, [Value.int .i64 (l.getD (k - 1) 0), .int .i64 (l.getD k 0), .int .i64 (l.getD (k + 1) 0), .int .i64 (l.getD (k + 2) 0)][j]? = some v → wr.cell? (ad.add j) = some v := by
          intro j v hj
          have hj4 : j < 4 := by
            rcases Nat.lt_or_ge j 4 with h | h
            · exact h
            · rw [List.getElem?_eq_none (by simpa using h)] at hj; cases hj
          have e := hcell j (by omega)
          rw [e]
          have ev : ((l.take ((k : Int) + 3).toNat).drop ((k : Int) - 1).toNat).getD j 0 = l.getD (k - 1 + j) 0 := by
            rw [show ((k : Int) + 3).toNat = k + 3 by omega, show ((k : Int) - 1).toNat = k - 1 by omega]
            simp only [List.getD_eq_getElem?_getD, List.getElem?_drop, List.getElem?_take]
            rw [if_pos (by omega)]
          rw [ev]
          match j, hj4 with
          | 0, _ => simpa using hj
          | 1, _ => rw [show k - 1 + 1 = k by omega]; simpa using hj
          | 2, _ => rw [show k - 1 + 2 = k + 1 by omega]; simpa using hj
          | 3, _ => rw [show k - 1 + 3 = k + 2 by omega]; simpa using hj
        have hval : shV l num den k = nearV (cubA (l.getD (k - 1) 0) (l.getD k 0) (l.getD (k + 1) 0) (l.getD (k + 2) 0) num den) (cubB (l.getD (k - 1) 0) (l.getD k 0) (l.getD (k + 1) 0) (l.getD (k + 2) 0) num den) := if_pos ⟨m1, m2⟩
        clear hcell
        generalize l.getD (k - 1) 0 = x0 at hvals hval
        generalize l.getD k 0 = x1 at hvals hval
        generalize l.getD (k + 1) 0 = x2 at hvals hval
        generalize l.getD (k + 2) 0 = x3 at hvals hval
        have hval := Aside0.mk hval
        have HV := Aside0.mk hvals
        rw [h4] at hrun
        clear hread hi hz0 hz1 hz2 hrd h4 hvals
        have harr := fun c W => run_arr (some ad) c W
        go_wp2_with ((with_reducible refine gate_dst (N := 61) rfl ?_); refine wpList_load_arr rfl 22 _ rfl ad rfl _ 4 3 HV.out Try.underlying22 (by kernel_rfl) ?_)
        clear hrun harr HV
        refine (cubic_calls _ _ _ _ _ _ _).mono ?_
        rintro e w4 ⟨rfl, HB'⟩
        have HB := Aside0.mk (below_step HB.out HB')
        have HO := Aside0.mk (Kd.R_below HO.out HB')
        clear HB'
        go_wp2_with fail
        refine (nearest_calls _ _ _).mono ?_
        rintro e w' ⟨rfl, ⟨nd5, rfl⟩⟩
        have hcel := Kd.R_celln (0 : Int) HO.out (k : Int) (by omega) (by omega)
        rw [show (k : Int).toNat = k by omega] at hcel
        obtain ⟨hc1, hc2⟩ := hcel
        obtain ⟨y, hc1⟩ : ∃ y, w4.cell? ⟨g, k, none⟩ = some y := ⟨_, hc1⟩
        have HP := Aside0.mk (Kd.R_putn (Kd.R_drewN HO.out nd5) (k : Int) (shV l num den k))
        rw [show (k : Int).toNat = k by omega, put_step (shL l num den) (l.length - 1) k HL1.out hlt _ (shL_at l num den k hlt), hval.out] at HP
        go_wp2_with fail
        go_roundw
        case rel =>
          refine ⟨k + 1, by omega, by go_num, HP, ⟨below_set (pw_below_drewN HB.out nd5) _ hg0 _ _⟩⟩
        case measure => simp [intOf]; omega
      · have hval : shV l num den k = nearV (linA (l.getD k 0) (l.getD (k + 1) 0) num den) (linB (l.getD k 0) (l.getD (k + 1) 0) num den) := if_neg hm
        obtain ⟨ad, hA, hcell⟩ := (Kd.reads_of_C (enc := Value.int .i64) (d := (0 : Int)) (h1 := fun _ => rfl) HC2.out).2.2 (by omega)
        subst hA
        have q0 := hcell k (by omega)
        have q1 := hcell (k + 1) (by omega)
        rw [Addr.add_succ'] at q1
        clear hcell
        generalize l.getD k 0 = x0 at q0 hval
        generalize l.getD (k + 1) 0 = x1 at q1 hval
        have hval := Aside0.mk hval
        by_cases hk0 : k = 0
        · have t2 : decide ((0 : Int) < (k : Int)) = false := by simp; omega
          have t2' : ¬ 0 < k := by omega
          clear hm hk0
          go_wp2_with fail
          have b1 : k < l.length := by omega
          have b2 : wrap64 ((k : Int) + 1) = (k : Int) + 1 := w64 (by omega) (by omega)
          have b3 : (0 : Int) ≤ (k : Int) + 1 := by omega
          have b4 : (k : Int) + 1 < (l.length : Int) := by omega
          have b5 : ((k : Int) + 1).toNat = k + 1 := by omega
          refine start_ (n := 19) (S := fun w' => w'.cell? (ad.add k) = some (.int .i64 x0) ∧ w'.cell? ⟨ad.block, ad.off + (k + 1), none⟩ = some (.int .i64 x1)) (ds := [11]) #[false, false, false, false, false, false, false, false, false, false, false, false, false, false, false, false, false, false, false] (by kernel_rfl) rfl rfl ⟨(by simpa using q0), (by simpa using q1)⟩ (fun hHeld => ?_)
          refine pure_ (i := 0) (N := some 78) (v := ?_) (a' := ?_) #[true, false, false, false, false, false, false, false, false, false, false, false, false, false, false, false, false, false, false] rfl rfl (by kernel_rfl) (fun _ _ _ h => h) (Or.inl ⟨by rfl, ?_⟩) ?_ ?_
          rotate_left
          · intro w'
            go_simp
            with_reducible rfl
          rotate_left
          · simp only [Act.put, List.setIfInBounds_toArray, List.set_cons_zero, List.set_cons_succ, i64_w, i32_w]
            rfl
          refine pure_ (i := 1) (N := some 79) (v := ?_) (a' := ?_) #[true, true, false, false, false, false, false, false, false, false, false, false, false, false, false, false, false, false, false] rfl rfl (by kernel_rfl) (fun _ _ _ h => h) (Or.inl ⟨by rfl, ?_⟩) ?_ ?_
          rotate_left
          · intro w'
            go_simp
            with_reducible rfl
          rotate_left
          · simp only [Act.put, List.setIfInBounds_toArray, List.set_cons_zero, List.set_cons_succ, i64_w, i32_w]
            rfl
          refine pure_ (i := 2) (N := some 80) (v := ?_) (a' := ?_) #[true, true, true, false, false, false, false, false, false, false, false, false, false, false, false, false, false, false, false] rfl rfl (by kernel_rfl) (fun _ _ _ h => h) (Or.inl ⟨by rfl, ?_⟩) ?_ ?_
          rotate_left
          · intro w'
            go_simp
            with_reducible rfl
          rotate_left
          · simp only [Act.put, List.setIfInBounds_toArray, List.set_cons_zero, List.set_cons_succ, i64_w, i32_w]
            rfl
          refine pure_ (i := 4) (N := some 82) (v := ?_) (a' := ?_) #[true, true, true, false, true, false, false, false, false, false, false, false, false, false, false, false, false, false, false] rfl rfl (by kernel_rfl) (fun _ _ _ h => h) (Or.inl ⟨by rfl, ?_⟩) ?_ ?_
          rotate_left
          · intro w'
            go_simp
            with_reducible rfl
          rotate_left
          · simp only [Act.put, List.setIfInBounds_toArray, List.set_cons_zero, List.set_cons_succ, i64_w, i32_w]
            rfl
          refine pure_ (i := 5) (N := some 83) (v := ?_) (a' := ?_) #[true, true, true, false, true, true, false, false, false, false, false, false, false, false, false, false, false, false, false] rfl rfl (by kernel_rfl) (fun _ _ _ h => h) (Or.inl ⟨by rfl, ?_⟩) ?_ ?_
          rotate_left
          · intro w'
            go_simp
            with_reducible rfl
          rotate_left
          · simp only [Act.put, List.setIfInBounds_toArray, List.set_cons_zero, List.set_cons_succ, i64_w, i32_w]
            rfl
          refine pure_ (i := 6) (N := some 84) (v := ?_) (a' := ?_) #[true, true, true, false, true, true, true, false, false, false, false, false, false, false, false, false, false, false, false] rfl rfl (by kernel_rfl) (fun _ _ _ h => h) (Or.inl ⟨by rfl, ?_⟩) ?_ ?_
          rotate_left
          · intro w'
            go_simp
            with_reducible rfl
          rotate_left
          · simp only [Act.put, List.setIfInBounds_toArray, List.set_cons_zero, List.set_cons_succ, i64_w, i32_w]
            rfl
          refine pure_ (i := 7) (N := some 85) (v := ?_) (a' := ?_) #[true, true, true, false, true, true, true, true, false, false, false, false, false, false, false, false, false, false, false] rfl rfl (by kernel_rfl) (fun _ _ _ h => h) (Or.inl ⟨by rfl, ?_⟩) ?_ ?_
          rotate_left
          · intro w'
            go_simp
            with_reducible rfl
          rotate_left
          · simp only [Act.put, List.setIfInBounds_toArray, List.set_cons_zero, List.set_cons_succ, i64_w, i32_w]
            rfl
          refine pure_ (i := 9) (N := some 87) (v := ?_) (a' := ?_) #[true, true, true, false, true, true, true, true, false, true, false, false, false, false, false, false, false, false, false] rfl rfl (by kernel_rfl) (fun _ _ _ h => h) (Or.inl ⟨by rfl, ?_⟩) ?_ ?_
          rotate_left
          · intro w'
            go_simp
            with_reducible rfl
          rotate_left
          · simp only [Act.put, List.setIfInBounds_toArray, List.set_cons_zero, List.set_cons_succ, i64_w, i32_w]
            rfl
          refine pure_ (i := 10) (N := some 88) (v := ?_) (a' := ?_) #[true, true, true, false, true, true, true, true, false, true, true, false, false, false, false, false, false, false, false] rfl rfl (by kernel_rfl) (fun _ _ _ h => h) (Or.inl ⟨by rfl, ?_⟩) ?_ ?_
          rotate_left
          · intro w'
            go_simp
            with_reducible rfl
          rotate_left
          · simp only [Act.put, List.setIfInBounds_toArray, List.set_cons_zero, List.set_cons_succ, i64_w, i32_w]
            rfl
          refine take_ (i := 3) (N := some 81) (v := ?_) (a' := ?_) #[true, true, true, true, true, true, true, true, false, true, true, false, false, false, false, false, false, false, false] rfl rfl (by kernel_rfl) (fun _ _ _ h => h) (Or.inl ⟨by rfl, ?_⟩) hHeld ?_ ?_
          rotate_left
          · rintro w' ⟨s0, s1⟩
            go_simp
            with_reducible rfl
          rotate_left
          · simp only [Act.put, List.setIfInBounds_toArray, List.set_cons_zero, List.set_cons_succ, i64_w, i32_w]
            rfl
          refine take_ (i := 8) (N := some 86) (v := ?_) (a' := ?_) #[true, true, true, true, true, true, true, true, true, true, true, false, false, false, false, false, false, false, false] rfl rfl (by kernel_rfl) (fun _ _ _ h => h) (Or.inl ⟨by rfl, ?_⟩) hHeld ?_ ?_
          rotate_left
          · rintro w' ⟨s0, s1⟩
            go_simp
            with_reducible rfl
          rotate_left
          · simp only [Act.put, List.setIfInBounds_toArray, List.set_cons_zero, List.set_cons_succ, i64_w, i32_w]
            rfl
          refine last_ (i := 11) (N := some 89) #[true, true, true, true, true, true, true, true, true, true, true, true, false, false, false, false, false, false, false] rfl rfl (by kernel_rfl) (by decide) (fun K hK => ?_)
          refine goes_ Try.func14 (by kernel_rfl) rfl #[.int .i64 x0, .int .i64 x1, .int .i64 num, .int .i64 den] (by rfl) rfl rfl (by simp only [List.map_toArray, List.map_cons, List.map_nil]; rfl) ?_
          with_reducible refine (linear_calls _ _ _ _ _).mono ?_
          rintro e w4 ⟨rfl, HB'⟩
          refine ⟨_, rfl, ?_⟩
          refine hK.out _ _ ?_
          clear hK K
          refine norm_ (a' := ?_) ?_ ?_
          rotate_left
          · show Act.put _ (some 89) _ = _
            simp only [Act.put, List.setIfInBounds_toArray, List.set_cons_zero, List.set_cons_succ, i64_w, i32_w]
            rfl
          refine pure_ (i := 12) (N := some 77) (v := ?_) (a' := ?_) #[true, true, true, true, true, true, true, true, true, true, true, true, true, false, false, false, false, false, false] rfl rfl (by kernel_rfl) (fun _ _ _ h => h) (Or.inl ⟨by rfl, ?_⟩) ?_ ?_
          rotate_left
          · intro w'
            go_simp
            with_reducible rfl
          rotate_left
          · simp only [Act.put, List.setIfInBounds_toArray, List.set_cons_zero, List.set_cons_succ, i64_w, i32_w]
            rfl
          refine pure_ (i := 13) (N := some 90) (v := ?_) (a' := ?_) #[true, true, true, true, true, true, true, true, true, true, true, true, true, true, false, false, false, false, false] rfl rfl (by kernel_rfl) (fun _ _ _ h => h) (Or.inl ⟨by rfl, ?_⟩) ?_ ?_
          rotate_left
          · intro w'
            go_simp
            with_reducible rfl
          rotate_left
          · simp only [Act.put, List.setIfInBounds_toArray, List.set_cons_zero, List.set_cons_succ, i64_w, i32_w]
            rfl
          refine pure_ (i := 14) (N := some 91) (v := ?_) (a' := ?_) #[true, true, true, true, true, true, true, true, true, true, true, true, true, true, true, false, false, false, false] rfl rfl (by kernel_rfl) (fun _ _ _ h => h) (Or.inl ⟨by rfl, ?_⟩) ?_ ?_
          rotate_left
          · intro w'
            go_simp
            with_reducible rfl
          rotate_left
          · simp only [Act.put, List.setIfInBounds_toArray, List.set_cons_zero, List.set_cons_succ, i64_w, i32_w]
            rfl
          refine pure_ (i := 15) (N := some 92) (v := ?_) (a' := ?_) #[true, true, true, true, true, true, true, true, true, true, true, true, true, true, true, true, false, false, false] rfl rfl (by kernel_rfl) (fun _ _ _ h => h) (Or.inl ⟨by rfl, ?_⟩) ?_ ?_
          rotate_left
          · intro w'
            go_simp
            with_reducible rfl
          rotate_left
          · simp only [Act.put, List.setIfInBounds_toArray, List.set_cons_zero, List.set_cons_succ, i64_w, i32_w]
            rfl
          refine pure_ (i := 16) (N := some 13) (v := ?_) (a' := ?_) #[true, true, true, true, true, true, true, true, true, true, true, true, true, true, true, true, true, false, false] rfl rfl (by kernel_rfl) (fun _ _ _ h => h) (Or.inl ⟨by rfl, ?_⟩) ?_ ?_
          rotate_left
          · intro w'
            go_simp
            with_reducible rfl
          rotate_left
          · simp only [Act.put, List.setIfInBounds_toArray, List.set_cons_zero, List.set_cons_succ, i64_w, i32_w]
            rfl
          refine pure_ (i := 17) (N := some 14) (v := ?_) (a' := ?_) #[true, true, true, true, true, true, true, true, true, true, true, true, true, true, true, true, true, true, false] rfl rfl (by kernel_rfl) (fun _ _ _ h => h) (Or.inl ⟨by rfl, ?_⟩) ?_ ?_
          rotate_left
          · intro w'
            go_simp
            with_reducible rfl
          rotate_left
          · simp only [Act.put, List.setIfInBounds_toArray, List.set_cons_zero, List.set_cons_succ, i64_w, i32_w]
            rfl
          refine pure_ (i := 18) (N := some 15) (v := ?_) (a' := ?_) #[true, true, true, true, true, true, true, true, true, true, true, true, true, true, true, true, true, true, true] rfl rfl (by kernel_rfl) (fun _ _ _ h => h) (Or.inl ⟨by rfl, ?_⟩) ?_ ?_
          rotate_left
          · intro w'
            go_simp
            with_reducible rfl
          rotate_left
          · simp only [Act.put, List.setIfInBounds_toArray, List.set_cons_zero, List.set_cons_succ, i64_w, i32_w]
            rfl
          refine done_ (by kernel_rfl) ?_
          clear b1 b2 b3 b4 b5 q0 q1
          have HB := Aside0.mk (below_step (pw_below_drewN HB.out 1) HB')
          have HO := Aside0.mk (Kd.R_below (Kd.R_drew HO.out) HB')
          clear HB'
          go_wp2_with fail
          refine (nearest_calls _ _ _).mono ?_
          rintro e w' ⟨rfl, ⟨nd5, rfl⟩⟩
          have hcel := Kd.R_celln (0 : Int) HO.out (k : Int) (by omega) (by omega)
          rw [show (k : Int).toNat = k by omega] at hcel
          obtain ⟨hc1, hc2⟩ := hcel
          obtain ⟨y, hc1⟩ : ∃ y, w4.cell? ⟨g, k, none⟩ = some y := ⟨_, hc1⟩
          have HP := Aside0.mk (Kd.R_putn (Kd.R_drewN HO.out nd5) (k : Int) (shV l num den k))
          rw [show (k : Int).toNat = k by omega, put_step (shL l num den) (l.length - 1) k HL1.out hlt _ (shL_at l num den k hlt), hval.out] at HP
          go_wp2_with fail
          go_roundw
          case rel =>
            refine ⟨k + 1, by omega, by go_num, HP, ⟨below_set (pw_below_drewN HB.out nd5) _ hg0 _ _⟩⟩
          case measure => simp [intOf]; omega
        · have t2 : decide ((0 : Int) < (k : Int)) = true := by simp; omega
          have t2' : 0 < k := by omega
          have t3 : decide ((k : Int) + 2 < (l.length : Int)) = false := by simp; omega
          have t3' : ¬ k + 2 < l.length := by omega
          clear hm hk0
          go_wp2_with fail
          have b1 : k < l.length := by omega
          have b2 : wrap64 ((k : Int) + 1) = (k : Int) + 1 := w64 (by omega) (by omega)
          have b3 : (0 : Int) ≤ (k : Int) + 1 := by omega
          have b4 : (k : Int) + 1 < (l.length : Int) := by omega
          have b5 : ((k : Int) + 1).toNat = k + 1 := by omega
          refine start_ (n := 19) (S := fun w' => w'.cell? (ad.add k) = some (.int .i64 x0) ∧ w'.cell? ⟨ad.block, ad.off + (k + 1), none⟩ = some (.int .i64 x1)) (ds := [11]) #[false, false, false, false, false, false, false, false, false, false, false, false, false, false, false, false, false, false, false] (by kernel_rfl) rfl rfl ⟨(by simpa using q0), (by simpa using q1)⟩ (fun hHeld => ?_)
          refine pure_ (i := 0) (N := some 78) (v := ?_) (a' := ?_) #[true, false, false, false, false, false, false, false, false, false, false, false, false, false, false, false, false, false, false] rfl rfl (by kernel_rfl) (fun _ _ _ h => h) (Or.inl ⟨by rfl, ?_⟩) ?_ ?_
          rotate_left
          · intro w'
            go_simp
            with_reducible rfl
          rotate_left
          · simp only [Act.put, List.setIfInBounds_toArray, List.set_cons_zero, List.set_cons_succ, i64_w, i32_w]
            rfl
          refine pure_ (i := 1) (N := some 79) (v := ?_) (a' := ?_) #[true, true, false, false, false, false, false, false, false, false, false, false, false, false, false, false, false, false, false] rfl rfl (by kernel_rfl) (fun _ _ _ h => h) (Or.inl ⟨by rfl, ?_⟩) ?_ ?_
          rotate_left
          · intro w'
            go_simp
            with_reducible rfl
          rotate_left
          · simp only [Act.put, List.setIfInBounds_toArray, List.set_cons_zero, List.set_cons_succ, i64_w, i32_w]
            rfl
          refine pure_ (i := 2) (N := some 80) (v := ?_) (a' := ?_) #[true, true, true, false, false, false, false, false, false, false, false, false, false, false, false, false, false, false, false] rfl rfl (by kernel_rfl) (fun _ _ _ h => h) (Or.inl ⟨by rfl, ?_⟩) ?_ ?_
          rotate_left
          · intro w'
            go_simp
            with_reducible rfl
          rotate_left
          · simp only [Act.put, List.setIfInBounds_toArray, List.set_cons_zero, List.set_cons_succ, i64_w, i32_w]
            rfl
          refine pure_ (i := 4) (N := some 82) (v := ?_) (a' := ?_) #[true, true, true, false, true, false, false, false, false, false, false, false, false, false, false, false, false, false, false] rfl rfl (by kernel_rfl) (fun _ _ _ h => h) (Or.inl ⟨by rfl, ?_⟩) ?_ ?_
          rotate_left
          · intro w'
            go_simp
            with_reducible rfl
          rotate_left
          · simp only [Act.put, List.setIfInBounds_toArray, List.set_cons_zero, List.set_cons_succ, i64_w, i32_w]
            rfl
          refine pure_ (i := 5) (N := some 83) (v := ?_) (a' := ?_) #[true, true, true, false, true, true, false, false, false, false, false, false, false, false, false, false, false, false, false] rfl rfl (by kernel_rfl) (fun _ _ _ h => h) (Or.inl ⟨by rfl, ?_⟩) ?_ ?_
          rotate_left
          · intro w'
            go_simp
            with_reducible rfl
          rotate_left
          · simp only [Act.put, List.setIfInBounds_toArray, List.set_cons_zero, List.set_cons_succ, i64_w, i32_w]
            rfl
          refine pure_ (i := 6) (N := some 84) (v := ?_) (a' := ?_) #[true, true, true, false, true, true, true, false, false, false, false, false, false, false, false, false, false, false, false] rfl rfl (by kernel_rfl) (fun _ _ _ h => h) (Or.inl ⟨by rfl, ?_⟩) ?_ ?_
          rotate_left
          · intro w'
            go_simp
            with_reducible rfl
          rotate_left
          · simp only [Act.put, List.setIfInBounds_toArray, List.set_cons_zero, List.set_cons_succ, i64_w, i32_w]
            rfl
          refine pure_ (i := 7) (N := some 85) (v := ?_) (a' := ?_) #[true, true, true, false, true, true, true, true, false, false, false, false, false, false, false, false, false, false, false] rfl rfl (by kernel_rfl) (fun _ _ _ h => h) (Or.inl ⟨by rfl, ?_⟩) ?_ ?_
          rotate_left
          · intro w'
            go_simp
            with_reducible rfl
          rotate_left
          · simp only [Act.put, List.setIfInBounds_toArray, List.set_cons_zero, List.set_cons_succ, i64_w, i32_w]
            rfl
          refine pure_ (i := 9) (N := some 87) (v := ?_) (a' := ?_) #[true, true, true, false, true, true, true, true, false, true, false, false, false, false, false, false, false, false, false] rfl rfl (by kernel_rfl) (fun _ _ _ h => h) (Or.inl ⟨by rfl, ?_⟩) ?_ ?_
          rotate_left
          · intro w'
            go_simp
            with_reducible rfl
          rotate_left
          · simp only [Act.put, List.setIfInBounds_toArray, List.set_cons_zero, List.set_cons_succ, i64_w, i32_w]
            rfl
          refine pure_ (i := 10) (N := some 88) (v := ?_) (a' := ?_) #[true, true, true, false, true, true, true, true, false, true, true, false, false, false, false, false, false, false, false] rfl rfl (by kernel_rfl) (fun _ _ _ h => h) (Or.inl ⟨by rfl, ?_⟩) ?_ ?_
          rotate_left
          · intro w'
            go_simp
            with_reducible rfl
          rotate_left
          · simp only [Act.put, List.setIfInBounds_toArray, List.set_cons_zero, List.set_cons_succ, i64_w, i32_w]
            rfl
          refine take_ (i := 3) (N := some 81) (v := ?_) (a' := ?_) #[true, true, true, true, true, true, true, true, false, true, true, false, false, false, false, false, false, false, false] rfl rfl (by kernel_rfl) (fun _ _ _ h => h) (Or.inl ⟨by rfl, ?_⟩) hHeld ?_ ?_
          rotate_left
          · rintro w' ⟨s0, s1⟩
            go_simp
            with_reducible rfl
          rotate_left
          · simp only [Act.put, List.setIfInBounds_toArray, List.set_cons_zero, List.set_cons_succ, i64_w, i32_w]
            rfl
          refine take_ (i := 8) (N := some 86) (v := ?_) (a' := ?_) #[true, true, true, true, true, true, true, true, true, true, true, false, false, false, false, false, false, false, false] rfl rfl (by kernel_rfl) (fun _ _ _ h => h) (Or.inl ⟨by rfl, ?_⟩) hHeld ?_ ?_
          rotate_left
          · rintro w' ⟨s0, s1⟩
            go_simp
            with_reducible rfl
          rotate_left
          · simp only [Act.put, List.setIfInBounds_toArray, List.set_cons_zero, List.set_cons_succ, i64_w, i32_w]
            rfl
          refine last_ (i := 11) (N := some 89) #[true, true, true, true, true, true, true, true, true, true, true, true, false, false, false, false, false, false, false] rfl rfl (by kernel_rfl) (by decide) (fun K hK => ?_)
          refine goes_ Try.func14 (by kernel_rfl) rfl #[.int .i64 x0, .int .i64 x1, .int .i64 num, .int .i64 den] (by rfl) rfl rfl (by simp only [List.map_toArray, List.map_cons, List.map_nil]; rfl) ?_
          with_reducible refine (linear_calls _ _ _ _ _).mono ?_
          rintro e w4 ⟨rfl, HB'⟩
          refine ⟨_, rfl, ?_⟩
          refine hK.out _ _ ?_
          clear hK K
          refine norm_ (a' := ?_) ?_ ?_
          rotate_left
          · show Act.put _ (some 89) _ = _
            simp only [Act.put, List.setIfInBounds_toArray, List.set_cons_zero, List.set_cons_succ, i64_w, i32_w]
            rfl
          refine pure_ (i := 12) (N := some 77) (v := ?_) (a' := ?_) #[true, true, true, true, true, true, true, true, true, true, true, true, true, false, false, false, false, false, false] rfl rfl (by kernel_rfl) (fun _ _ _ h => h) (Or.inl ⟨by rfl, ?_⟩) ?_ ?_
          rotate_left
          · intro w'
            go_simp
            with_reducible rfl
          rotate_left
          · simp only [Act.put, List.setIfInBounds_toArray, List.set_cons_zero, List.set_cons_succ, i64_w, i32_w]
            rfl
          refine pure_ (i := 13) (N := some 90) (v := ?_) (a' := ?_) #[true, true, true, true, true, true, true, true, true, true, true, true, true, true, false, false, false, false, false] rfl rfl (by kernel_rfl) (fun _ _ _ h => h) (Or.inl ⟨by rfl, ?_⟩) ?_ ?_
          rotate_left
          · intro w'
            go_simp
            with_reducible rfl
          rotate_left
          · simp only [Act.put, List.setIfInBounds_toArray, List.set_cons_zero, List.set_cons_succ, i64_w, i32_w]
            rfl
          refine pure_ (i := 14) (N := some 91) (v := ?_) (a' := ?_) #[true, true, true, true, true, true, true, true, true, true, true, true, true, true, true, false, false, false, false] rfl rfl (by kernel_rfl) (fun _ _ _ h => h) (Or.inl ⟨by rfl, ?_⟩) ?_ ?_
          rotate_left
          · intro w'
            go_simp
            with_reducible rfl
          rotate_left
          · simp only [Act.put, List.setIfInBounds_toArray, List.set_cons_zero, List.set_cons_succ, i64_w, i32_w]
            rfl
          refine pure_ (i := 15) (N := some 92) (v := ?_) (a' := ?_) #[true, true, true, true, true, true, true, true, true, true, true, true, true, true, true, true, false, false, false] rfl rfl (by kernel_rfl) (fun _ _ _ h => h) (Or.inl ⟨by rfl, ?_⟩) ?_ ?_
          rotate_left
          · intro w'
            go_simp
            with_reducible rfl
          rotate_left
          · simp only [Act.put, List.setIfInBounds_toArray, List.set_cons_zero, List.set_cons_succ, i64_w, i32_w]
            rfl
          refine pure_ (i := 16) (N := some 13) (v := ?_) (a' := ?_) #[true, true, true, true, true, true, true, true, true, true, true, true, true, true, true, true, true, false, false] rfl rfl (by kernel_rfl) (fun _ _ _ h => h) (Or.inl ⟨by rfl, ?_⟩) ?_ ?_
          rotate_left
          · intro w'
            go_simp
            with_reducible rfl
          rotate_left
          · simp only [Act.put, List.setIfInBounds_toArray, List.set_cons_zero, List.set_cons_succ, i64_w, i32_w]
            rfl
          refine pure_ (i := 17) (N := some 14) (v := ?_) (a' := ?_) #[true, true, true, true, true, true, true, true, true, true, true, true, true, true, true, true, true, true, false] rfl rfl (by kernel_rfl) (fun _ _ _ h => h) (Or.inl ⟨by rfl, ?_⟩) ?_ ?_
          rotate_left
          · intro w'
            go_simp
            with_reducible rfl
          rotate_left
          · simp only [Act.put, List.setIfInBounds_toArray, List.set_cons_zero, List.set_cons_succ, i64_w, i32_w]
            rfl
          refine pure_ (i := 18) (N := some 15) (v := ?_) (a' := ?_) #[true, true, true, true, true, true, true, true, true, true, true, true, true, true, true, true, true, true, true] rfl rfl (by kernel_rfl) (fun _ _ _ h => h) (Or.inl ⟨by rfl, ?_⟩) ?_ ?_
          rotate_left
          · intro w'
            go_simp
            with_reducible rfl
          rotate_left
          · simp only [Act.put, List.setIfInBounds_toArray, List.set_cons_zero, List.set_cons_succ, i64_w, i32_w]
            rfl
          refine done_ (by kernel_rfl) ?_
          clear b1 b2 b3 b4 b5 q0 q1
          have HB := Aside0.mk (below_step (pw_below_drewN HB.out 1) HB')
          have HO := Aside0.mk (Kd.R_below (Kd.R_drew HO.out) HB')
          clear HB'
          go_wp2_with fail
          refine (nearest_calls _ _ _).mono ?_
          rintro e w' ⟨rfl, ⟨nd5, rfl⟩⟩
          have hcel := Kd.R_celln (0 : Int) HO.out (k : Int) (by omega) (by omega)
          rw [show (k : Int).toNat = k by omega] at hcel
          obtain ⟨hc1, hc2⟩ := hcel
          obtain ⟨y, hc1⟩ : ∃ y, w4.cell? ⟨g, k, none⟩ = some y := ⟨_, hc1⟩
          have HP := Aside0.mk (Kd.R_putn (Kd.R_drewN HO.out nd5) (k : Int) (shV l num den k))
          rw [show (k : Int).toNat = k by omega, put_step (shL l num den) (l.length - 1) k HL1.out hlt _ (shL_at l num den k hlt), hval.out] at HP
          go_wp2_with fail
          go_roundw
          case rel =>
            refine ⟨k + 1, by omega, by go_num, HP, ⟨below_set (pw_below_drewN HB.out nd5) _ hg0 _ _⟩⟩
          case measure => simp [intOf]; omega
    · obtain rfl : k = l.length - 1 := by omega
      go_wp2_with fail
      rw [Exit.noGoto_ret]
      go_ret2
      have h := HO.out
      rw [List.take_of_length_le (by rw [HL1.out]; exact Nat.le_refl _), Nat.sub_self, List.replicate_zero, List.append_nil] at h
      exact ⟨_, rfl, h, HB.out⟩
end Go.Proofs.Ytcehcblhmgeonaa.A
