import Derived.Test.YtcehcblhmgeonaaA
/- The contracts of Linear and Cubic, of the program and of the reference; no condition. -/
namespace Go.Proofs.Ytcehcblhmgeonaa.A
open Go.RowKit Go.Proofs.YtcehcblhmgeonaaW.PrintWords Go.Proofs.YtcehcblhmgeonaaW.PrintLast Go.Proofs.YtcehcblhmgeonaaW.PrintMore
open Go.Proofs.Ytcehcblhmgeonaa.PResampleShifts
attribute [local go_sem] max2_int min2_int max_two min_two max_three min_three max_four min_four

/-! ### bounds of products -/
def bd (X x : Int) : Prop := -X ≤ x ∧ x ≤ X
theorem bd_mul {X Y x y : Int} (hx : bd X x) (hy : bd Y y) : bd (X * Y) (x * y) := by
  have hX : 0 ≤ X := by have := hx.1; have := hx.2; omega
  have hY : 0 ≤ Y := by have := hy.1; have := hy.2; omega
  have a1 : 0 ≤ (X - x) * (Y - y) := Int.mul_nonneg (by have := hx.2; omega) (by have := hy.2; omega)
  have a2 : 0 ≤ (X + x) * (Y + y) := Int.mul_nonneg (by have := hx.1; omega) (by have := hy.1; omega)
  have a3 : 0 ≤ (X - x) * (Y + y) := Int.mul_nonneg (by have := hx.2; omega) (by have := hy.1; omega)
  have a4 : 0 ≤ (X + x) * (Y - y) := Int.mul_nonneg (by have := hx.1; omega) (by have := hy.2; omega)
  simp only [Int.sub_mul, Int.mul_sub, Int.add_mul, Int.mul_add] at a1 a2 a3 a4
  constructor <;> omega
theorem bd_add {X Y x y : Int} (hx : bd X x) (hy : bd Y y) : bd (X + Y) (x + y) := ⟨by have := hx.1; have := hy.1; omega, by have := hx.2; have := hy.2; omega⟩
theorem bd_sub {X Y x y : Int} (hx : bd X x) (hy : bd Y y) : bd (X + Y) (x - y) := ⟨by have := hx.1; have := hy.2; omega, by have := hx.2; have := hy.1; omega⟩
theorem bd_neg {X x : Int} (hx : bd X x) : bd X (-x) := ⟨by have := hx.2; omega, by have := hx.1; omega⟩
theorem bd_num (n : Int) (h : 0 ≤ n) : bd n n := ⟨by omega, by omega⟩
theorem bd_w {X x : Int} (hx : bd X x) (hX : X ≤ 9223372036854775807) : wrap64 x = x := w64 (by have := hx.1; omega) (by have := hx.2; omega)
theorem bd_of {X : Int} {x y : Int} (e : wrap64 x = y) (hX : X ≤ 9223372036854775807) (hx : bd X x) : bd X y := by rw [← e, bd_w hx hX]; exact hx

/-! ### Linear -/
def linN (a b num den : Int) : Int := a * den + (b - a) * num
theorem linN_bd {a b num den : Int} (ha : inS a = true) (hb : inS b = true) (hf : frac num den = true) : bd 49149000 (linN a b num den) := by
  rw [inS_iff] at ha hb; rw [frac_iff] at hf
  have h1 : bd 16383 a := ⟨by omega, by omega⟩
  have h2 : bd 32766 (b - a) := ⟨by omega, by omega⟩
  have h3 : bd 1000 den := ⟨by omega, by omega⟩
  have h4 : bd 1000 num := ⟨by omega, by omega⟩
  exact bd_add (bd_mul h1 h3) (bd_mul h2 h4)
theorem linN_wrap {a b num den : Int} (ha : inS a = true) (hb : inS b = true) (hf : frac num den = true) :
    wrap64 ((wrap64 (a * den)) + (wrap64 ((wrap64 (b - a)) * num))) = linN a b num den := by
  have h0 := linN_bd ha hb hf
  rw [inS_iff] at ha hb; rw [frac_iff] at hf
  have h1 : bd 16383 a := ⟨by omega, by omega⟩
  have h2 : bd 32766 (b - a) := ⟨by omega, by omega⟩
  have h3 : bd 1000 den := ⟨by omega, by omega⟩
  have h4 : bd 1000 num := ⟨by omega, by omega⟩
  rw [bd_w (bd_mul h1 h3) (by omega), bd_w h2 (by omega), bd_w (bd_mul h2 h4) (by omega)]
  exact bd_w h0 (by omega)

def linOk (a b num den : Int) : Bool := inS a && inS b && frac num den
def linA (a b num den : Int) : Int := if linOk a b num den = true then redN (linN a b num den) den else 0
def linB (a b num den : Int) : Int := if linOk a b num den = true then redD (linN a b num den) den else 0
def errE (ok : Bool) : Int := if ok = true then 0 else 1

theorem linear_f (a b num den : Int) : resample_Linear.f 1001 a b num den = some (linA a b num den, linB a b num den, errE (linOk a b num den)) := by
  unfold resample_Linear.f linA linB errE
  rw [samples_f [a, b] (by simp) 1001 (by simp), fraction_f]
  simp only [Option.bind_some, List.all_cons, List.all_nil, Bool.and_true]
  by_cases h : (inS a && inS b) = true
  · rw [if_pos h]
    have h' := h
    rw [Bool.and_eq_true] at h'
    by_cases hf : frac num den = true
    · have hb := linN_bd h'.1 h'.2 hf
      rw [if_pos hf, linN_wrap h'.1 h'.2 hf]
      rw [frac_iff] at hf
      rw [reduced_f _ _ (by have := hb.1; omega) (by have := hb.2; omega) (by omega) (by omega) _ (by omega)]
      have : linOk a b num den = true := by rw [linOk, h, Bool.true_and, frac_iff]; exact hf
      simp [this]
    · rw [if_neg hf]
      have : ¬ (linOk a b num den = true) := by rw [linOk, h, Bool.true_and]; exact hf
      simp [this]
  · rw [if_neg h]
    have : ¬ (linOk a b num den = true) := by rw [linOk, Bool.and_eq_true]; exact fun hh => h hh.1
    simp [this]

theorem rlinear_f (a b num den : Int) : substationref19_Linear.f 1001 a b num den = some (linA a b num den, linB a b num den, errE (linOk a b num den)) := by
  unfold substationref19_Linear.f linA linB errE
  rw [rsample_f, rsample_f, rfraction_f]
  simp only [Option.bind_some]
  by_cases ha : inS a = true
  · rw [if_pos ha]
    by_cases hb' : inS b = true
    · rw [if_pos hb']
      by_cases hf : frac num den = true
      · have hb := linN_bd ha hb' hf
        rw [if_pos hf, linN_wrap ha hb' hf]
        have : linOk a b num den = true := by rw [linOk, ha, hb', hf]; rfl
        rw [frac_iff] at hf
        rw [lowest_f _ _ (by have := hb.1; omega) (by have := hb.2; omega) (by omega) (by omega) _ (by omega)]
        simp [this]
      · rw [if_neg hf]
        have : ¬ (linOk a b num den = true) := by rw [linOk, ha, hb', Bool.true_and, Bool.true_and]; exact hf
        simp [this]
    · rw [if_neg hb']
      have : ¬ (linOk a b num den = true) := by rw [linOk, ha, Bool.true_and, Bool.and_eq_true]; exact fun hh => hb' hh.1
      simp [this]
  · rw [if_neg ha]
    have : ¬ (linOk a b num den = true) := by rw [linOk, Bool.and_eq_true, Bool.and_eq_true]; exact fun hh => ha hh.1.1
    simp [this]

section
variable (w : World)
theorem linear_calls (a b num den : Int) : Calls Try.prog 14 #[.int .i64 a, .int .i64 b, .int .i64 num, .int .i64 den] w fun e w' =>
    e = .returned (.tuple #[.int .i64 (linA a b num den), .int .i64 (linB a b num den), .int .i64 (errE (linOk a b num den))]) ∧ Below w.heap.size w w' :=
  resample_Linear.calls 1001 a b num den _ _ _ w (linear_f a b num den)
theorem rlinear_calls (a b num den : Int) : Calls Try.prog 17 #[.int .i64 a, .int .i64 b, .int .i64 num, .int .i64 den] w fun e w' =>
    e = .returned (.tuple #[.int .i64 (linA a b num den), .int .i64 (linB a b num den), .int .i64 (errE (linOk a b num den))]) ∧ Below w.heap.size w w' :=
  substationref19_Linear.calls 1001 a b num den _ _ _ w (rlinear_f a b num den)
end

/-! ### Cubic -/
def cubN (s0 s1 s2 s3 num den : Int) : Int :=
  -s0 * num * (num - den) * (num - 2 * den) + 3 * s1 * (num + den) * (num - den) * (num - 2 * den) - 3 * s2 * (num + den) * num * (num - 2 * den) + s3 * (num + den) * num * (num - den)
def cubD (den : Int) : Int := 6 * den * den * den
def cubOk (s0 s1 s2 s3 num den : Int) : Bool := inS s0 && inS s1 && inS s2 && inS s3 && frac num den
def cubA (s0 s1 s2 s3 num den : Int) : Int := if cubOk s0 s1 s2 s3 num den = true then redN (cubN s0 s1 s2 s3 num den) (cubD den) else 0
def cubB (s0 s1 s2 s3 num den : Int) : Int := if cubOk s0 s1 s2 s3 num den = true then redD (cubN s0 s1 s2 s3 num den) (cubD den) else 0

section
variable {s0 s1 s2 s3 num den : Int}
theorem cubOk_iff : cubOk s0 s1 s2 s3 num den = true ↔ (inS s0 = true ∧ inS s1 = true ∧ inS s2 = true ∧ inS s3 = true) ∧ frac num den = true := by
  simp [cubOk, and_assoc]
theorem cubD_wrap (hf : frac num den = true) : wrap64 (wrap64 (wrap64 (6 * den) * den) * den) = cubD den ∧ 0 < cubD den ∧ cubD den ≤ 6000000000 := by
  rw [frac_iff] at hf
  have h6 : bd 6 6 := bd_num 6 (by omega)
  have h3 : bd 1000 den := ⟨by omega, by omega⟩
  have a1 := bd_mul h6 h3
  have a2 := bd_mul a1 h3
  have a3 := bd_mul a2 h3
  refine ⟨?_, ?_, ?_⟩
  · rw [bd_w a1 (by omega), bd_w a2 (by omega), bd_w a3 (by omega)]; rfl
  · unfold cubD; exact Int.mul_pos (Int.mul_pos (by omega) (by omega)) (by omega)
  · exact a3.2
theorem cubN_bd (h : cubOk s0 s1 s2 s3 num den = true) :
    wrap64 (wrap64 (wrap64 (wrap64 (wrap64 (wrap64 (wrap64 (-s0) * num) * wrap64 (num - den)) * wrap64 (num - wrap64 (2 * den))) +
                    wrap64 (wrap64 (wrap64 (wrap64 (3 * s1) * wrap64 (num + den)) * wrap64 (num - den)) * wrap64 (num - wrap64 (2 * den)))) -
                wrap64 (wrap64 (wrap64 (wrap64 (3 * s2) * wrap64 (num + den)) * num) * wrap64 (num - wrap64 (2 * den)))) +
            wrap64 (wrap64 (wrap64 (s3 * wrap64 (num + den)) * num) * wrap64 (num - den))) = cubN s0 s1 s2 s3 num den ∧
    wrap64 (wrap64 (wrap64 (wrap64 (-wrap64 (wrap64 (wrap64 (s0 * num) * wrap64 (num - den)) * wrap64 (num - wrap64 (2 * den)))) +
                    wrap64 (wrap64 (wrap64 (wrap64 (3 * s1) * wrap64 (num + den)) * wrap64 (num - den)) * wrap64 (num - wrap64 (2 * den)))) -
                wrap64 (wrap64 (wrap64 (wrap64 (3 * s2) * wrap64 (num + den)) * num) * wrap64 (num - wrap64 (2 * den)))) +
            wrap64 (wrap64 (wrap64 (s3 * wrap64 (num + den)) * num) * wrap64 (num - den))) = cubN s0 s1 s2 s3 num den ∧
    bd 1000000000000000 (cubN s0 s1 s2 s3 num den) := by
  rw [cubOk_iff, inS_iff, inS_iff, inS_iff, inS_iff, frac_iff] at h
  obtain ⟨⟨h0, h1, h2, h3⟩, hf⟩ := h
  have b0 : bd 16383 s0 := ⟨by omega, by omega⟩
  have b1 : bd 16383 s1 := ⟨by omega, by omega⟩
  have b2 : bd 16383 s2 := ⟨by omega, by omega⟩
  have b3 : bd 16383 s3 := ⟨by omega, by omega⟩
  have bn : bd 1000 num := ⟨by omega, by omega⟩
  have c1 : bd 1000 (num - den) := ⟨by omega, by omega⟩
  have c2 : bd 2000 (num - 2 * den) := ⟨by omega, by omega⟩
  have c3 : bd 2000 (num + den) := ⟨by omega, by omega⟩
  have c4 : bd 2000 (2 * den) := ⟨by omega, by omega⟩
  have d1 : bd 49149 (3 * s1) := ⟨by omega, by omega⟩
  have d2 : bd 49149 (3 * s2) := ⟨by omega, by omega⟩
  have e1 := bd_mul (bd_neg b0) bn
  have e2 := bd_mul e1 c1
  have e3 := bd_mul e2 c2
  have e1' := bd_mul b0 bn
  have e2' := bd_mul e1' c1
  have e3' := bd_mul e2' c2
  have e4' := bd_neg e3'
  have f1 := bd_mul d1 c3
  have f2 := bd_mul f1 c1
  have f3 := bd_mul f2 c2
  have g1 := bd_mul d2 c3
  have g2 := bd_mul g1 bn
  have g3 := bd_mul g2 c2
  have i1 := bd_mul b3 c3
  have i2 := bd_mul i1 bn
  have i3 := bd_mul i2 c1
  have j1 := bd_add e3 f3
  have j2 := bd_sub j1 g3
  have j3 := bd_add j2 i3
  have eq : -(s0 * num * (num - den) * (num - 2 * den)) = -s0 * num * (num - den) * (num - 2 * den) := by
    rw [Int.neg_mul, Int.neg_mul, Int.neg_mul]
  refine ⟨?_, ?_, ?_⟩
  · rw [bd_w (bd_neg b0) (by omega), bd_w e1 (by omega), bd_w c1 (by omega), bd_w e2 (by omega), bd_w c4 (by omega), bd_w c2 (by omega), bd_w e3 (by omega), bd_w d1 (by omega), bd_w c3 (by omega), bd_w f1 (by omega), bd_w f2 (by omega), bd_w f3 (by omega), bd_w j1 (by omega),
      bd_w d2 (by omega), bd_w g1 (by omega), bd_w g2 (by omega), bd_w g3 (by omega), bd_w j2 (by omega), bd_w i1 (by omega), bd_w i2 (by omega), bd_w i3 (by omega), bd_w j3 (by omega)]
    rfl
  · rw [bd_w e1' (by omega), bd_w c1 (by omega), bd_w e2' (by omega), bd_w c4 (by omega), bd_w c2 (by omega), bd_w e3' (by omega), bd_w e4' (by omega), eq, bd_w d1 (by omega), bd_w c3 (by omega), bd_w f1 (by omega), bd_w f2 (by omega), bd_w f3 (by omega), bd_w j1 (by omega),
      bd_w d2 (by omega), bd_w g1 (by omega), bd_w g2 (by omega), bd_w g3 (by omega), bd_w j2 (by omega), bd_w i1 (by omega), bd_w i2 (by omega), bd_w i3 (by omega), bd_w j3 (by omega)]
    rfl
  · exact ⟨Int.le_trans (by omega) j3.1, Int.le_trans j3.2 (by omega)⟩
end

/-- four ints in a new block are a row that is read -/
theorem four_row (w : World) (s0 s1 s2 s3 : Int) (t : Nat) :
    Kd.C (Kd.int .i64) (w.alloc (.cells #[.int .i64 s0, .int .i64 s1, .int .i64 s2, .int .i64 s3] t)) (some ⟨w.heap.size, 0, none⟩) [s0, s1, s2, s3].length [s0, s1, s2, s3] := by
  refine Kd.C_of_reads (d := (0 : Int)) (h1 := fun _ => rfl) ⟨rfl, by simp, fun _ => ⟨_, rfl, fun j hj => ?_⟩⟩
  have hj' : j < 4 := hj
  rw [add_plain]
  match j, hj' with
  | 0, _ => simp
  | 1, _ => simp
  | 2, _ => simp
  | 3, _ => simp

set_option maxHeartbeats 1000000 in
theorem cubic_calls (s0 s1 s2 s3 num den : Int) (w : World) :
    Calls Try.prog 12 #[.agg #[.int .i64 s0, .int .i64 s1, .int .i64 s2, .int .i64 s3], .int .i64 num, .int .i64 den] w fun e w' =>
      e = .returned (.tuple #[.int .i64 (cubA s0 s1 s2 s3 num den), .int .i64 (cubB s0 s1 s2 s3 num den), .int .i64 (errE (cubOk s0 s1 s2 s3 num den))]) ∧ Below w.heap.size w w' := by
  have HR := Aside0.mk (four_row w s0 s1 s2 s3 22)
  obtain ⟨b, hb⟩ : ∃ b, [s0, s1, s2, s3].all inS = b := ⟨_, rfl⟩
  obtain ⟨f, hf⟩ : ∃ f, frac num den = f := ⟨_, rfl⟩
  have ok : cubOk s0 s1 s2 s3 num den = (b && f) := by rw [← hb, ← hf, cubOk]; simp [Bool.and_assoc]
  have HS := Aside0.mk hb
  have HF := Aside0.mk hf
  cases b with
  | false =>
    have HO : Aside0 (_ = _) := ⟨ok⟩
    clear hb hf ok
    go_enter Try.func12, Try.ntmps12
    go_wp2_with fail
    refine (samples_calls _ _ 4 _ HR.out (by simp) (by simp)).mono ?_
    rw [HS.out]
    rintro e w' ⟨rfl, ⟨nd, rfl⟩⟩
    go_wp2_with fail
    go_ret3
    have ok := HO.out
    exact ⟨by simp [cubA, cubB, errE, ok], by repeat (first | exact Below.refl _ _ | apply below_alloc | apply pw_below_drewN)⟩
  | true =>
    cases f with
    | false =>
      have HO : Aside0 (_ = _) := ⟨ok⟩
      clear hb hf ok
      go_enter Try.func12, Try.ntmps12
      go_wp2_with fail
      refine (samples_calls _ _ 4 _ HR.out (by simp) (by simp)).mono ?_
      rw [HS.out]
      rintro e w' ⟨rfl, ⟨nd, rfl⟩⟩
      go_wp2_with fail
      refine (frac_calls _ _ _).mono ?_
      rw [HF.out]
      rintro e w' ⟨rfl, ⟨nd2, rfl⟩⟩
      go_wp2_with fail
      go_ret3
      have ok := HO.out
      exact ⟨by simp [cubA, cubB, errE, ok], by repeat (first | exact Below.refl _ _ | apply below_alloc | apply pw_below_drewN)⟩
    | true =>
      have HO : Aside0 (_ = _) := ⟨ok⟩
      have HN := Aside0.mk (cubN_bd ok)
      have HD := Aside0.mk (cubD_wrap hf)
      clear hb hf ok
      go_enter Try.func12, Try.ntmps12
      go_wp2_with fail
      refine (samples_calls _ _ 4 _ HR.out (by simp) (by simp)).mono ?_
      rw [HS.out]
      rintro e w' ⟨rfl, ⟨nd, rfl⟩⟩
      go_wp2_with fail
      refine (frac_calls _ _ _).mono ?_
      rw [HF.out]
      rintro e w' ⟨rfl, ⟨nd2, rfl⟩⟩
      go_wp2_with fail
      rw [HN.out.1, HD.out.1]
      refine (reduced_calls _ _ _ (by have := HN.out.2.2.1; omega) (by have := HN.out.2.2.2; omega) HD.out.2.1 (by have := HD.out.2.2; omega)).mono ?_
      rintro e w' ⟨rfl, HB⟩
      have HB2 := Aside0.mk HB
      clear HB
      go_wp2_with fail
      go_ret3
      have ok := HO.out
      exact ⟨by simp [cubA, cubB, errE, ok], below_then (by repeat (first | exact Below.refl _ _ | apply below_alloc | apply pw_below_drewN)) (by simp) HB2.out⟩
end Go.Proofs.Ytcehcblhmgeonaa.A
