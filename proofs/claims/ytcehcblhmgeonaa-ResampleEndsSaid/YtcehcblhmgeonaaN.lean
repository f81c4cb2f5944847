import Derived.Test.YtcehcblhmgeonaaM
/- The walk of ResampleEnds; no condition. -/
namespace Go.Proofs.Ytcehcblhmgeonaa.A
open Go.RowKit Go.Proofs.YtcehcblhmgeonaaW.PrintWords Go.Proofs.YtcehcblhmgeonaaW.PrintLast Go.Proofs.YtcehcblhmgeonaaW.PrintMore
attribute [local go_sem] max2_int min2_int max_two min_two max_three min_three max_four min_four
set_option linter.unusedVariables false
set_option linter.unusedSimpArgs false

/-! ### the plain law -/
theorem near_one (x : Int) (h : -16383 ≤ x ∧ x ≤ 16383) : nearV x 1 = x := by
  unfold nearV
  rw [if_pos (by omega)]
  omega
theorem getD_inS {l : List Int} (h : l.all inS = true) (j : Nat) (hj : j < l.length) : inS (l.getD j 0) = true := by
  rw [List.all_eq_true] at h
  rw [List.getD_eq_getElem?_getD, List.getElem?_eq_getElem hj]
  exact h _ (List.getElem_mem hj)
theorem lin_zero (a b den : Int) (ha : inS a = true) (hb : inS b = true) (hd : 1 ≤ den ∧ den ≤ 1000) : linA a b 0 den = a ∧ linB a b 0 den = 1 := by
  have h := ends_zero a a b b den (by rw [cubOk_iff, frac_iff]; exact ⟨⟨ha, ha, hb, hb⟩, by omega⟩)
  exact ⟨h.1, h.2.1⟩
theorem lin_one (a b den : Int) (ha : inS a = true) (hb : inS b = true) (hd : 1 ≤ den ∧ den ≤ 1000) : linA a b den den = b ∧ linB a b den den = 1 := by
  have h := ends_one a a b b den (by rw [cubOk_iff, frac_iff]; exact ⟨⟨ha, ha, hb, hb⟩, by omega⟩)
  exact ⟨h.1, h.2.1⟩
theorem shV_zero (l : List Int) (den : Int) (hl : l.all inS = true) (hd : 1 ≤ den ∧ den ≤ 1000) (k : Nat) (hk : k + 1 < l.length) : shV l 0 den k = l.getD k 0 := by
  have i1 := getD_inS hl k (by omega)
  have i2 := getD_inS hl (k + 1) (by omega)
  unfold shV
  split
  · rename_i h
    have := ends_zero (l.getD (k - 1) 0) (l.getD k 0) (l.getD (k + 1) 0) (l.getD (k + 2) 0) den (by rw [cubOk_iff, frac_iff]; exact ⟨⟨getD_inS hl _ (by omega), i1, i2, getD_inS hl _ (by omega)⟩, by omega⟩)
    rw [this.2.2.1, this.2.2.2]
    exact near_one _ (inS_iff.1 i1)
  · rw [(lin_zero _ _ den i1 i2 hd).1, (lin_zero _ _ den i1 i2 hd).2]
    exact near_one _ (inS_iff.1 i1)
theorem shV_one (l : List Int) (den : Int) (hl : l.all inS = true) (hd : 1 ≤ den ∧ den ≤ 1000) (k : Nat) (hk : k + 1 < l.length) : shV l den den k = l.getD (k + 1) 0 := by
  have i1 := getD_inS hl k (by omega)
  have i2 := getD_inS hl (k + 1) (by omega)
  unfold shV
  split
  · rename_i h
    have := ends_one (l.getD (k - 1) 0) (l.getD k 0) (l.getD (k + 1) 0) (l.getD (k + 2) 0) den (by rw [cubOk_iff, frac_iff]; exact ⟨⟨getD_inS hl _ (by omega), i1, i2, getD_inS hl _ (by omega)⟩, by omega⟩)
    rw [this.2.2.1, this.2.2.2]
    exact near_one _ (inS_iff.1 i2)
  · rw [(lin_one _ _ den i1 i2 hd).1, (lin_one _ _ den i1 i2 hd).2]
    exact near_one _ (inS_iff.1 i2)
theorem shV_const (n : Nat) (c num den : Int) (hc : inS c = true) (hf : frac num den = true) (k : Nat) (hk : k + 1 < n) : shV (List.replicate n c) num den k = c := by
  have g : ∀ j, j < n → (List.replicate n c).getD j 0 = c := fun j hj => by simp [List.getD_eq_getElem?_getD, hj]
  have f := hf
  rw [frac_iff] at f
  have e1 : linN c c num den = c * den := by unfold linN; grind
  have e2 : cubN c c c c num den = c * cubD den := by unfold cubN cubD; grind
  have hd : 0 < cubD den := by unfold cubD; exact Int.mul_pos (Int.mul_pos (by omega) (by omega)) (by omega)
  unfold shV
  split
  · rename_i h
    simp only [List.length_replicate] at h
    rw [g _ (by omega), g _ (by omega), g _ (by omega), g _ (by omega)]
    have ok : cubOk c c c c num den = true := by rw [cubOk_iff]; exact ⟨⟨hc, hc, hc, hc⟩, hf⟩
    unfold cubA cubB
    rw [if_pos ok, if_pos ok, e2, (red_whole c _ hd).1, (red_whole c _ hd).2]
    exact near_one _ (inS_iff.1 hc)
  · rw [g _ (by omega), g _ (by omega)]
    have ok : linOk c c num den = true := by rw [linOk, hc, hf]; rfl
    unfold linA linB
    rw [if_pos ok, if_pos ok, e1, (red_whole c _ (by omega)).1, (red_whole c _ (by omega)).2]
    exact near_one _ (inS_iff.1 hc)
theorem shL_eq (l xs : List Int) (num den : Int) (hx : xs.length = l.length - 1) (h : ∀ k, k + 1 < l.length → shV l num den k = xs.getD k 0) : shL l num den = xs := by
  apply List.ext_getElem
  · simp [shL, hx]
  · intro k h1 h2
    have hk : k + 1 < l.length := by simp [shL] at h1; omega
    have := h k hk
    simp [shL, this, List.getD_eq_getElem?_getD, List.getElem?_eq_getElem h2]
theorem shOk_of (l : List Int) (num den : Int) (h2 : 2 ≤ l.length) (h3 : l.length ≤ 240) (hl : l.all inS = true) (hf : frac num den = true) : shOk l num den = true := by
  rw [shOk, hl, hf]; simp; omega
theorem ends_law (l : List Int) (c num den : Int) (h2 : 2 ≤ l.length) (h3 : l.length ≤ 240) (hl : l.all inS = true) (hc : inS c = true) (hf : frac num den = true) :
    shOk l 0 den = true ∧ shOk l den den = true ∧ shOk (List.replicate l.length c) num den = true ∧
      shOut l 0 den = l.take (l.length - 1) ∧ shOut l den den = l.drop 1 ∧ shOut (List.replicate l.length c) num den = (List.replicate l.length c).drop 1 := by
  have f := hf
  rw [frac_iff] at f
  have o1 := shOk_of l 0 den h2 h3 hl (by rw [frac_iff]; omega)
  have o2 := shOk_of l den den h2 h3 hl (by rw [frac_iff]; omega)
  have o3 := shOk_of (List.replicate l.length c) num den (by simpa using h2) (by simpa using h3) (by rw [List.all_eq_true]; intro x hx; rw [List.eq_of_mem_replicate hx]; exact hc) hf
  refine ⟨o1, o2, o3, ?_, ?_, ?_⟩
  · rw [shOut, if_pos o1]
    refine shL_eq _ _ _ _ (by simp) fun k hk => ?_
    rw [shV_zero l den hl (by omega) k hk]
    simp [List.getD_eq_getElem?_getD, List.getElem?_take, show k < l.length - 1 by omega, List.getElem?_eq_getElem (show k < l.length by omega)]
  · rw [shOut, if_pos o2]
    refine shL_eq _ _ _ _ (by simp) fun k hk => ?_
    rw [shV_one l den hl (by omega) k hk]
    simp [List.getD_eq_getElem?_getD, Nat.add_comm]
  · rw [shOut, if_pos o3]
    refine shL_eq _ _ _ _ (by simp) fun k hk => ?_
    rw [List.length_replicate] at hk
    rw [shV_const _ c num den hc hf k hk]
    simp [List.getD_eq_getElem?_getD, show k < l.length - 1 by omega]

/-! ### two rows of the call's own -/
section
variable {W w1 : World} {base : Nat} {v u v1 : Value} {xs : List Int} {ok ok' : Nat → Prop}
theorem reok (h : (Kd.int .i64).R 3 W base ok u xs) (hok : ∀ k, u.ownBlock = some k → ok' k) : (Kd.int .i64).R 3 W base ok' u xs := Kd.R_of_own (Kd.own_of_R h) hok
theorem other_kept (h : (Kd.int .i64).R 3 W base ok u xs) (ha : ∀ k, v.ownBlock = some k → u.ownBlock ≠ some k) (hg : W.grownBy w1 v.ownBlock) : (Kd.int .i64).R 3 w1 base (fun _ => True) u xs := by
  have h1 : (Kd.int .i64).R 3 W base (fun k => some k ≠ v.ownBlock) u xs := reok h (fun k hk e => ha k e.symm hk)
  exact reok (Kd.R_grown h1 hg (fun _ hk => hk)) (fun _ _ => trivial)
theorem apart_after (h : (Kd.int .i64).R 3 W base ok u xs) (ha : ∀ k, v.ownBlock = some k → u.ownBlock ≠ some k) (hn : v1.ownBlock = v.ownBlock ∨ ∃ b, v1.ownBlock = some b ∧ W.heap.size ≤ b) : ∀ k, v1.ownBlock = some k → u.ownBlock ≠ some k := by
  intro k hk hu
  rcases hn with e | ⟨b, hb, hle⟩
  · exact ha k (e ▸ hk) hu
  · have := Kd.R_lt h k hu
    rw [hk] at hb
    injection hb with hb
    omega
end
theorem apart_symm {v u : Value} (h : ∀ k, v.ownBlock = some k → u.ownBlock ≠ some k) : ∀ k, u.ownBlock = some k → v.ownBlock ≠ some k := fun k hu hv => h k hv hu

theorem map_step (l : List Int) (k : Nat) (x : Int) (hk : k < l.length) (hx : l.getD k 0 = x) : (l.take k).map nrm ++ [nrm x] = (l.take (k + 1)).map nrm := by
  rw [List.take_succ_eq_append_getElem hk, List.map_append, List.map_singleton]
  rw [List.getD_eq_getElem?_getD, List.getElem?_eq_getElem hk] at hx
  rw [← hx]; rfl
theorem map_first (l : List Int) (k : Nat) (hk : k < l.length) : rdOf 0 ((l.take (k + 1)).map nrm) 0 = nrm (l.getD 0 0) := by
  cases l with
  | nil => simp at hk
  | cons a r => simp [rdOf]
theorem map_nrm_all (l : List Int) : (l.map nrm).all inS = true := by
  rw [List.all_eq_true]
  intro x hx
  obtain ⟨y, -, rfl⟩ := List.mem_map.1 hx
  exact nrm_inS y

set_option maxRecDepth 100000 in
set_option maxHeartbeats 4000000 in
theorem ResampleEnds_walk (a : Option Addr) (len cap : Nat) (zs : List Int) (num den : Int) (w : World)
    (hrow : (a = none ∧ len = 0 ∧ cap = 0 ∧ zs = []) ∨ ∃ x, a = some x ∧ len ≤ cap ∧ cap ≤ maxLen ∧ zs.length = cap ∧ (∀ i, i < zs.length → w.cell? (x.add i) = some (.int .i64 (zs.getD i 0))) ∧ ∀ n ∈ zs, (Lit.int .i64 n).wf = true)
    (hy : len * 8 ≤ 140737488351232) (w1 : (Lit.int .i64 num).wf = true) (w2 : (Lit.int .i64 den).wf = true) :
    Calls Try.prog 9 #[.slice a len cap, .int .i64 num, .int .i64 den] w fun e w' => e = .returned (.bool true) ∧ Below w.heap.size w w' := by
  obtain ⟨l, rfl, hr, hm, hw, hc⟩ := ReadsInt.ofRowC hrow
  have HR : Aside0 (Kd.C (Kd.int .i64) w a l.length l) := ⟨Kd.C_of_reads (d := (0 : Int)) (h1 := fun _ => rfl) hr⟩
  have HC := Aside0.mk hc
  have HM : Aside0 (l.length ≤ 9223372036854775807) := ⟨by omega⟩
  clear hrow hr hm hw hc hy w1 w2
  by_cases l2 : l.length < 2
  · have f1 : decide ((l.length : Int) < 2) = true := by simp; omega
    have f1' : decide (l.length < 2) = true := by simp; omega
    go_enter Try.func9, Try.ntmps9
    go_wp2_with fail
    refine (known_calls _).mono ?_
    rintro e w1 ⟨rfl, HB⟩
    have HB := Aside0.mk HB
    go_wp2_with fail
    go_ret
    exact ⟨rfl, HB.out⟩
  have f1 : decide ((l.length : Int) < 2) = false := by simp; omega
  have f1' : decide (l.length < 2) = false := by simp; omega
  by_cases l240 : 240 < l.length
  · have f2 : decide (240 < (l.length : Int)) = true := by simp; omega
    have f2' : decide (240 < l.length) = true := by simp; omega
    go_enter Try.func9, Try.ntmps9
    go_wp2_with fail
    refine (known_calls _).mono ?_
    rintro e w1 ⟨rfl, HB⟩
    have HB := Aside0.mk HB
    go_wp2_with fail
    go_ret
    exact ⟨rfl, HB.out⟩
  have f2 : decide (240 < (l.length : Int)) = false := by simp; omega
  have f2' : decide (240 < l.length) = false := by simp; omega
  obtain ⟨ad, hA, hcell⟩ := (Kd.reads_of_C (enc := Value.int .i64) (d := (0 : Int)) (h1 := fun _ => rfl) HR.out).2.2 (by omega)
  subst hA
  have HX := Aside0.mk hcell
  clear hcell
  go_enter Try.func9, Try.ntmps9
  go_wp2_with fail
  refine (known_calls _).mono ?_
  rintro e w1 ⟨rfl, HB⟩
  have HB := Aside0.mk HB
  go_wp2_with fail
  go_loopw [7, 8, 9] (fun vy vz i wr => ∃ k : Nat, k ≤ l.length ∧ i = .int .i64 k ∧ Aside0 (Kd.R (Kd.int .i64) 3 wr w.heap.size (fun _ => True) vy ((l.take k).map nrm)) ∧ Aside0 (Kd.R (Kd.int .i64) 3 wr w.heap.size (fun _ => True) vz (List.replicate k (nrm (l.getD 0 0)))) ∧ Aside0 (∀ b, vy.ownBlock = some b → vz.ownBlock ≠ some b) ∧ Aside0 (Below w.heap.size w wr))
    (fun _ _ i _ => l.length - (intOf i).toNat)
  case atStart => exact ⟨0, by omega, rfl, ⟨by simpa using Kd.R_nil _ _ _ _ _⟩, ⟨by simpa using Kd.R_nil _ _ _ _ _⟩, ⟨fun b hb => by simp [Value.ownBlock] at hb⟩, HB⟩
  case round =>
    clear HB
    obtain ⟨k, hk, rfl, HY, HZ, HP, HB⟩ := hrel
    obtain ⟨ys, hys⟩ : ∃ ys, (l.take k).map nrm = ys := ⟨_, rfl⟩
    obtain ⟨zs', hzs⟩ : ∃ zs', List.replicate k (nrm (l.getD 0 0)) = zs' := ⟨_, rfl⟩
    rw [hys] at HY
    rw [hzs] at HZ
    have EY := Aside0.mk hys
    have EZ := Aside0.mk hzs
    have ly : ys.length = k := by rw [← hys]; simp; omega
    have lz : zs'.length = k := by rw [← hzs]; simp
    have LY := Aside0.mk ly
    have LZ := Aside0.mk lz
    clear hys hzs ly lz
    obtain ⟨A1, c1, rfl⟩ := Kd.R_slice HY.out
    obtain ⟨A2, c2, rfl⟩ := Kd.R_slice HZ.out
    by_cases hlt : k < l.length
    · have t1 : decide ((k : Int) < (l.length : Int)) = true := by simp; omega
      have q := pw_cell_below HB.out (HX.out k hlt)
      obtain ⟨x, hx⟩ : ∃ x, l.getD k 0 = x := ⟨_, rfl⟩
      rw [hx] at q
      have HXk := Aside0.mk hx
      clear hx
      go_wp2_with fail
      refine (within_calls _ _ (by omega) (by omega) _).mono ?_
      rintro e w' ⟨rfl, ⟨nd, rfl⟩⟩
      have HB := Aside0.mk (pw_below_drewN HB.out nd)
      have HY := Aside0.mk (Kd.R_drewN HY.out nd)
      have HZ := Aside0.mk (Kd.R_drewN HZ.out nd)
      have hst := map_step l k x hlt HXk.out
      rw [EY.out] at hst
      have HST := Aside0.mk hst
      clear hst
      obtain ⟨z0, hz0⟩ : ∃ z, nrm (l.getD 0 0) = z := ⟨_, rfl⟩
      have HZ0 := Aside0.mk hz0
      have g := nrm_inS x
      rw [inS_iff] at g
      obtain ⟨nx, hnx⟩ : ∃ y, nrm x = y := ⟨_, rfl⟩
      rw [hnx] at g HST
      have hnx' : x % 32767 - 16383 = nx := hnx
      have g' : -16383 ≤ x % 32767 - 16383 ∧ x % 32767 - 16383 ≤ 16383 := by rw [hnx']; exact g
      have hm1 : wrap64 (x % 32767 - 16383) = nx := by rw [hnx']; exact w64 (by omega) (by omega)
      have hm2 := hnx'
      clear hnx hz0
      go_wp2_with (first
        | ((with_reducible refine gate_builtin (b := .append) (xs := #[.tmp 32, .tmp 39]) rfl ?_); at_builtin; refine Kd.R_append (Kd.int .i64) (w0 := w) w.heap.size rfl (.tmp 32) (.tmp 39) 35 3 (.int .i64 0) 8 rfl Try.underlying35 zero_int rfl (by decide) (by omega) _ _ nx [.int .i64 nx] (fun _ => True) (fun _ => False) rfl rfl rfl (fun _ hk => hk.elim) (fun _ _ => trivial) HY.out HB.out (below_size HB.out) (by rw [LY.out]; omega) ?_; intro v1 w6 hv1 hb1 hg1 hn1; have HY2 := Aside0.mk hv1; have HB2 := Aside0.mk hb1; have HZ2 := Aside0.mk (other_kept HZ.out HP.out hg1); have HP2 := Aside0.mk (apart_after HZ.out HP.out hn1); clear hv1 hb1 hg1 hn1; obtain ⟨g1, cap1, rfl, hge, hglt, _⟩ := Kd.R_form HY2.out (by simp); have hcel := (Kd.R_celln (0 : Int) HY2.out 0 (by omega) (by first | omega | (simp; done) | (simp; omega))).1; rw [HST.out, map_first l k hlt, HZ0.out, show (0 : Int).toNat = 0 from rfl] at hcel; clear hglt hge)
        | ((with_reducible refine gate_builtin (b := .append) (xs := #[.tmp 41, .tmp 45]) rfl ?_); at_builtin; refine Kd.R_append (Kd.int .i64) (w0 := w) w.heap.size rfl (.tmp 41) (.tmp 45) 35 3 (.int .i64 0) 8 rfl Try.underlying35 zero_int rfl (by decide) (by omega) _ _ z0 [.int .i64 z0] (fun _ => True) (fun _ => False) rfl rfl rfl (fun _ hk => hk.elim) (fun _ _ => trivial) HZ2.out HB2.out (below_size HB2.out) (by rw [LZ.out]; omega) ?_; intro v2 w7 hv1 hb1 hg1 hn1; have HZ3 := Aside0.mk hv1; have HB3 := Aside0.mk hb1; have HY3 := Aside0.mk (other_kept HY2.out (apart_symm HP2.out) hg1); have HP3 := Aside0.mk (apart_symm (apart_after HY2.out (apart_symm HP2.out) hn1)); clear hv1 hb1 hg1 hn1))
      go_roundw
      case rel =>
        refine ⟨k + 1, by omega, by go_num, ⟨?_⟩, ⟨?_⟩, HP3, HB3⟩
        · have h := HY3.out
          rw [← HST.out]
          simpa using h
        · have h := HZ3.out
          rw [← EZ.out, HZ0.out, ← List.replicate_succ'] at h
          rw [HZ0.out]
          exact h
      case measure => simp [intOf]; omega
    · obtain rfl : k = l.length := by omega
      have t1 : decide ((l.length : Int) < (l.length : Int)) = false := by simp
      have lk := HM.out
      rw [List.take_of_length_le (Nat.le_refl _)] at EY
      have EN := Aside0.mk (ends_law ys (nrm (l.getD 0 0)) (fracN num den) (fracD den) (by rw [LY.out]; omega) (by rw [LY.out]; omega) (by rw [← EY.out]; exact map_nrm_all l) (nrm_inS _) (frac_ok num den))
      rw [LY.out, EZ.out] at EN
      obtain ⟨o1, ho1⟩ : ∃ o, ys.take (l.length - 1) = o := ⟨_, rfl⟩
      obtain ⟨o2, ho2⟩ : ∃ o, ys.drop 1 = o := ⟨_, rfl⟩
      obtain ⟨o3, ho3⟩ : ∃ o, zs'.drop 1 = o := ⟨_, rfl⟩
      rw [ho1, ho2, ho3] at EN
      have hl := HM.out
      have k1 : ∀ W : World, (Instr.slice 35 (.slice A1 ys.length c1) none (some (.int .i64 ((ys.length : Int) - 1))) none).run Try.prog W = .ok (.slice A1 o1.length c1) W := by
        intro W
        obtain ⟨i0, hi, -, hz1, -⟩ := info_parts zero_int
        have e : ((ys.length : Int) - 1).toNat = o1.length := by rw [← ho1, List.length_take, LY.out]; omega
        have h := cut_to (P := Try.prog) 35 3 .i64 Try.underlying35 hi A1 ys.length c1 ((ys.length : Int) - 1) (by rw [LY.out]; omega) (by omega) (Kd.R_reads' HY.out).2.1 W
        rw [e] at h
        exact h
      have K1 : Aside0 (∀ wx, Kd.C (Kd.int .i64) wx A1 ys.length ys → Kd.C (Kd.int .i64) wx A1 o1.length o1 ∧ o1.length ≤ c1) := ⟨fun wx h => by
        have := Kd.C_take h (m := l.length - 1) (by rw [LY.out]; omega)
        rw [ho1] at this
        exact ⟨this, by rw [← ho1, List.length_take, LY.out]; have := (Kd.R_reads' HY.out).2.1; have := LY.out; omega⟩⟩
      obtain ⟨A1', hA1'⟩ : ∃ X, (if c1 = 1 then A1 else A1.map (·.add (1 * 1))) = X := ⟨_, rfl⟩
      obtain ⟨A2', hA2'⟩ : ∃ X, (if c2 = 1 then A2 else A2.map (·.add (1 * 1))) = X := ⟨_, rfl⟩
      have k2 : ∀ W : World, (Instr.slice 35 (.slice A1 ys.length c1) (some (.int .i64 1)) none none).run Try.prog W = .ok (.slice A1' o2.length (c1 - 1)) W := by
        intro W
        obtain ⟨i0, hi, -, hz1, -⟩ := info_parts zero_int
        have h := cut_from (P := Try.prog) 35 3 .i64 Try.underlying35 hi 1 hz1 A1 ys.length c1 1 (by omega) (by rw [LY.out]; omega) W
        rw [show ys.length - (1 : Int).toNat = o2.length by rw [← ho2]; simp] at h
        rw [← hA1']; exact h
      have K2 : Aside0 (∀ wx, Kd.C (Kd.int .i64) wx A1 ys.length ys → Kd.C (Kd.int .i64) wx A1' o2.length o2 ∧ o2.length ≤ c1 - 1) := ⟨fun wx h => by
        have hc := (Kd.R_reads' HY.out).2.1
        have := Kd.C_drop (c := c1) h (m := 1) (by rw [LY.out]; omega) hc
        rw [ho2] at this
        rw [← hA1']
        exact ⟨this, by rw [← ho2, List.length_drop]; omega⟩⟩
      have k3 : ∀ W : World, (Instr.slice 35 (.slice A2 zs'.length c2) (some (.int .i64 1)) none none).run Try.prog W = .ok (.slice A2' o3.length (c2 - 1)) W := by
        intro W
        obtain ⟨i0, hi, -, hz1, -⟩ := info_parts zero_int
        have h := cut_from (P := Try.prog) 35 3 .i64 Try.underlying35 hi 1 hz1 A2 zs'.length c2 1 (by omega) (by rw [LZ.out]; omega) W
        rw [show zs'.length - (1 : Int).toNat = o3.length by rw [← ho3]; simp] at h
        rw [← hA2']; exact h
      have K3 : Aside0 (∀ wx, Kd.C (Kd.int .i64) wx A2 zs'.length zs' → Kd.C (Kd.int .i64) wx A2' o3.length o3 ∧ o3.length ≤ c2 - 1) := ⟨fun wx h => by
        have hc := (Kd.R_reads' HZ.out).2.1
        have := Kd.C_drop (c := c2) h (m := 1) (by rw [LZ.out]; omega) hc
        rw [ho3] at this
        rw [← hA2']
        exact ⟨this, by rw [← ho3, List.length_drop]; omega⟩⟩
      have o1l : o1.length ≤ 240 := by rw [← ho1, List.length_take]; omega
      have o2l : o2.length ≤ 240 := by rw [← ho2, List.length_drop, LY.out]; omega
      have o3l : o3.length ≤ 240 := by rw [← ho3, List.length_drop, LZ.out]; omega
      have y1 : 2 ≤ ys.length := by rw [LY.out]; omega
      have y2 : ys.length ≤ 240 := by rw [LY.out]; omega
      clear ho1 ho2 ho3 hA1' hA2' hl
      go_wp2_with fail
      refine (fraction_calls _ _ _).mono ?_
      rintro e w2 ⟨rfl, ⟨nd, rfl⟩⟩
      generalize fracN num den = N at *
      generalize fracD den = D at *
      have HB := Aside0.mk (pw_below_drewN HB.out nd)
      have HY := Aside0.mk (Kd.R_drewN HY.out nd)
      have HZ := Aside0.mk (Kd.R_drewN HZ.out nd)
      go_wp2_with fail
      refine (shift_calls _ _ _ _ _ _ (Kd.R_reads' HY.out).2.2 (Kd.R_reads' HY.out).2.1 (by rw [LY.out]; exact HM.out)).mono ?_
      rw [EN.out.1, EN.out.2.2.2.1]
      rintro e w3 ⟨v1, rfl, HV1, HB'⟩
      have HV1 := Aside0.mk HV1
      have HB := Aside0.mk (below_step HB.out HB')
      have HY := Aside0.mk (Kd.R_below HY.out HB')
      have HZ := Aside0.mk (Kd.R_below HZ.out HB')
      clear HB'
      obtain ⟨B1, d1, rfl⟩ := Kd.R_slice HV1.out
      simp only [errE, if_true]
      go_wp2_with fail
      refine (shift_calls _ _ _ _ _ _ (Kd.R_reads' HY.out).2.2 (Kd.R_reads' HY.out).2.1 (by rw [LY.out]; exact HM.out)).mono ?_
      rw [EN.out.2.1, EN.out.2.2.2.2.1]
      rintro e w4 ⟨v2, rfl, HV2, HB'⟩
      have HV2 := Aside0.mk HV2
      have HB := Aside0.mk (below_step HB.out HB')
      have HY := Aside0.mk (Kd.R_below HY.out HB')
      have HZ := Aside0.mk (Kd.R_below HZ.out HB')
      have HV1 := Aside0.mk (Kd.R_below HV1.out HB')
      clear HB'
      obtain ⟨B2, d2, rfl⟩ := Kd.R_slice HV2.out
      simp only [errE, if_true]
      go_wp2_with fail
      refine (shift_calls _ _ _ _ _ _ (Kd.R_reads' HZ.out).2.2 (Kd.R_reads' HZ.out).2.1 (by rw [LZ.out]; exact HM.out)).mono ?_
      rw [EN.out.2.2.1, EN.out.2.2.2.2.2]
      rintro e w5 ⟨v3, rfl, HV3, HB'⟩
      have HV3 := Aside0.mk HV3
      have HB := Aside0.mk (below_step HB.out HB')
      have HY := Aside0.mk (Kd.R_below HY.out HB')
      have HZ := Aside0.mk (Kd.R_below HZ.out HB')
      have HV1 := Aside0.mk (Kd.R_below HV1.out HB')
      have HV2 := Aside0.mk (Kd.R_below HV2.out HB')
      clear HB'
      obtain ⟨B3, d3, rfl⟩ := Kd.R_slice HV3.out
      simp only [errE, if_true]
      go_wp2_with fail
      have R1 := K1.out _ (Kd.R_reads' HY.out).2.2
      have R2 := K2.out _ (Kd.R_reads' HY.out).2.2
      have R3 := K3.out _ (Kd.R_reads' HZ.out).2.2
      refine (same_calls _ _ _ _ _ _ _ (Kd.R_reads' HV1.out).2.2 (Kd.R_reads' HV1.out).2.1 R1.1 R1.2 rfl (by omega)).mono ?_
      rintro e w' ⟨rfl, ⟨n1, rfl⟩⟩
      clear R1
      have R2 := Aside0.mk R2
      have R3 := Aside0.mk R3
      go_wp2_with fail
      refine (same_calls _ _ _ _ _ _ _ (Kd.C_drewN (Kd.R_reads' HV2.out).2.2 _) (Kd.R_reads' HV2.out).2.1 (Kd.C_drewN R2.out.1 _) R2.out.2 rfl (by omega)).mono ?_
      rintro e w' ⟨rfl, ⟨n2, rfl⟩⟩
      go_wp2_with fail
      refine (same_calls _ _ _ _ _ _ _ (Kd.C_drewN (Kd.R_reads' HV3.out).2.2 _) (Kd.R_reads' HV3.out).2.1 (Kd.C_drewN R3.out.1 _) R3.out.2 rfl (by omega)).mono ?_
      rintro e w' ⟨rfl, ⟨n3, rfl⟩⟩
      go_wp2_with fail
      go_ret
      exact ⟨rfl, pw_below_drewN HB.out _⟩
end Go.Proofs.Ytcehcblhmgeonaa.A
