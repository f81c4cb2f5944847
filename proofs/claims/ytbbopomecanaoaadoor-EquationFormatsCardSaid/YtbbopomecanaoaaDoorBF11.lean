import Derived.Test.YtbbopomecanaoaaDoorBF10
import Derived.Lib.ItoaMem
/- The texts that the law's proof stands on, merged and pruned by program. No condition. -/
namespace Go.Proofs.YtbbopomecanaoaaDoor.A
open Go.RowKit Go.Proofs.YtbbopomecanaoaaDoorW.PrintWords Go.Proofs.YtbbopomecanaoaaDoorW.PrintLast Go.Proofs.YtbbopomecanaoaaDoorW.PrintMore Go.Proofs.YtbbopomecanaoaaDoor.XK
open Go.Proofs.YtbbopomecanaoaaDoor
set_option linter.unusedVariables false
set_option linter.unusedSimpArgs false
def numB (n : Int) : ByteArray := bs (Lib.decDigits n.toNat)
def signL (op : Int) : List UInt8 := if op = 5 then [97, 110, 100] else if op = 6 then [111, 114] else if op = 7 then [120, 111, 114] else if op = 8 then [60] else if op = 9 then [62] else if op = 10 then [61] else if op = 11 then [43] else [45]
def callL (op : Int) : List UInt8 := if op = 13 then [109, 105, 110] else if op = 14 then [109, 97, 120] else if op = 15 then [97, 98, 115] else if op = 16 then [105, 102] else if op = 17 then [114, 105, 115, 101] else if op = 18 then [102, 97, 108, 108] else if op = 19 then [100, 101, 108, 97, 121] else if op = 20 then [104, 111, 108, 100] else if op = 21 then [108, 97, 116, 99, 104] else [99, 111, 117, 110, 116]
def argsB : Bool → ByteArray → List ByteArray → ByteArray
  | _, a, [] => a
  | true, a, x :: xs => argsB false (a ++ x) xs
  | false, a, x :: xs => argsB false ((a ++ bs [44, 32]) ++ x) xs
def fmtN (op n : Int) (s : ByteArray) (ks : List ByteArray) : ByteArray :=
  if op = 1 then (if n = 1 then bs [116, 114, 117, 101] else bs [102, 97, 108, 115, 101])
  else if op = 2 then numB n
  else if op = 3 then s
  else if op = 4 then (bs [40, 110, 111, 116, 32] ++ ks.getD 0 ByteArray.empty) ++ bs [41]
  else if op ≤ 12 then (((((bs [40] ++ ks.getD 0 ByteArray.empty) ++ bs [32]) ++ bs (signL op)) ++ bs [32]) ++ ks.getD 1 ByteArray.empty) ++ bs [41]
  else argsB true (bs (callL op) ++ bs [40]) (if op = 19 ∨ op = 20 then ks ++ [numB n] else ks) ++ bs [41]
mutual
def fmtE : E → ByteArray
  | ⟨o, n, s, ks⟩ => fmtN o n s (fmtL ks)
def fmtL : List E → List ByteArray
  | [] => []
  | y :: ys => fmtE y :: fmtL ys
end
theorem fmtE_eq (x : E) : fmtE x = fmtN x.f0 x.f1 x.f2 (fmtL x.f3) := by cases x; rw [fmtE]
theorem fmtL_len : ∀ l : List E, (fmtL l).length = l.length
  | [] => by rw [fmtL]; rfl
  | y :: ys => by rw [fmtL, List.length_cons, List.length_cons, fmtL_len ys]
theorem fmtL_app : ∀ a b : List E, fmtL (a ++ b) = fmtL a ++ fmtL b
  | [], b => by rw [fmtL]; rfl
  | y :: ys, b => by rw [List.cons_append, fmtL, fmtL, fmtL_app ys b]; rfl
theorem dec_len : ∀ n u : Nat, u < 10 ^ (n + 1) → (Lib.decDigits u).length ≤ n + 1
  | 0, u, h => by rw [Lib.decDigits, dif_pos (by omega)]; exact Nat.le_refl _
  | n + 1, u, h => by
    rw [Lib.decDigits]
    split
    · simp
    · rw [List.length_append]
      have := dec_len n (u / 10) (by rw [Nat.pow_succ] at h; omega)
      simp
      omega
theorem bs_size (l : List UInt8) : (bs l).size = l.length := by
  show l.toArray.size = l.length
  simp
theorem numB_size (n : Int) (h : n ≤ 32767) : (numB n).size ≤ 5 := by
  unfold numB
  rw [bs_size]
  exact dec_len 4 n.toNat (by omega)
theorem sign_len (op : Int) : (signL op).length ≤ 3 := by
  unfold signL
  repeat' split
  all_goals decide
theorem call_len (op : Int) : (callL op).length ≤ 5 := by
  unfold callL
  repeat' split
  all_goals decide
def sumS : List ByteArray → Nat
  | [] => 0
  | x :: xs => x.size + sumS xs
theorem sumS_app : ∀ a b : List ByteArray, sumS (a ++ b) = sumS a + sumS b
  | [], b => by simp [sumS]
  | x :: xs, b => by rw [List.cons_append, sumS, sumS, sumS_app xs b]; omega
theorem argsB_size : ∀ (f : Bool) (a : ByteArray) (l : List ByteArray), (argsB f a l).size ≤ a.size + sumS l + 2 * l.length
  | f, a, [] => by
    cases f <;> simp [argsB, sumS]
  | true, a, x :: xs => by
    have := argsB_size false (a ++ x) xs
    rw [argsB, sumS, List.length_cons]
    rw [ByteArray.size_append] at this
    omega
  | false, a, x :: xs => by
    have := argsB_size false ((a ++ bs [44, 32]) ++ x) xs
    have e2 : (bs [44, 32]).size = 2 := rfl
    rw [argsB, sumS, List.length_cons]
    rw [ByteArray.size_append, ByteArray.size_append] at this
    omega
theorem getS_le (l : List ByteArray) : (l.getD 0 ByteArray.empty).size + (l.getD 1 ByteArray.empty).size ≤ sumS l := by
  cases l with
  | nil => simp [sumS]
  | cons x xs =>
    cases xs with
    | nil => simp [sumS]
    | cons y ys => simp [sumS]
theorem fmtN_size (op n : Int) (s : ByteArray) (ks : List ByteArray) (hs : s.size ≤ 12) (hn : n ≤ 32767) : (fmtN op n s ks).size ≤ 25 + sumS ks + 2 * ks.length := by
  have hg := getS_le ks
  unfold fmtN
  split
  · split <;> rw [bs_size] <;> simp <;> omega
  split
  · have := numB_size n hn; omega
  split
  · omega
  split
  · simp only [ByteArray.size_append, bs_size, List.length_cons, List.length_nil]; omega
  split
  · have := sign_len op
    simp only [ByteArray.size_append, bs_size, List.length_cons, List.length_nil]; omega
  · have h1 := argsB_size true (bs (callL op) ++ bs [40]) (if op = 19 ∨ op = 20 then ks ++ [numB n] else ks)
    have h2 := call_len op
    have h3 := numB_size n hn
    simp only [ByteArray.size_append, bs_size, List.length_cons, List.length_nil] at h1 ⊢
    by_cases hc : op = 19 ∨ op = 20
    · rw [if_pos hc] at h1 ⊢
      rw [sumS_app, sumS, sumS, List.length_append, List.length_cons, List.length_nil] at h1
      omega
    · rw [if_neg hc] at h1 ⊢
      omega
theorem nameE_size (s : ByteArray) (h : nameE s = true) : s.size ≤ 12 := by
  unfold nameE sNameB at h
  rw [Bool.and_eq_true] at h
  have := h.1
  split at this
  · cases this
  · split at this
    · cases this
    · omega
theorem node_facts {x : E} (h : nodeB x = true) : x.f2.size ≤ 12 ∧ (x.f3.length : Int) = arityI x.f0 ∧ 0 ≤ x.f1 ∧ x.f1 ≤ boundI x.f0 ∧ namedB x = true := by
  unfold nodeB at h
  simp only [Bool.and_eq_true, decide_eq_true_eq] at h
  obtain ⟨⟨⟨h1, h2⟩, h3⟩, h4⟩ := h
  refine ⟨?_, h2, h3, h4, h1⟩
  unfold namedB at h1
  split at h1
  · exact nameE_size _ h1
  · have := (tol_nil _).mp (of_decide_eq_true h1)
    omega
theorem arity3 (op : Int) : arityI op ≤ 3 := by
  unfold arityI
  repeat' split
  all_goals decide
theorem bound_le (op : Int) : boundI op ≤ 32767 := by
  unfold boundI
  repeat' split
  all_goals decide
mutual
theorem fmtE_size : ∀ x : E, bE x = true → (fmtE x).size ≤ 31 * szE x
  | ⟨o, n, s, ks⟩, h => by
    rw [bE, Bool.and_eq_true] at h
    obtain ⟨h1, h2, h3, h4, -⟩ := node_facts h.1
    have h5 := fmtL_size ks h.2
    have h6 := arity3 o
    have h7 := bound_le o
    have h8 := fmtN_size o n s (fmtL ks) h1 (by simp at h4; omega)
    rw [fmtL_len] at h8
    rw [fmtE, szE]
    simp at h2
    omega
theorem fmtL_size : ∀ l : List E, bL l = true → sumS (fmtL l) ≤ 31 * szL l
  | [], _ => by rw [fmtL, sumS]; omega
  | y :: ys, h => by
    rw [bL, Bool.and_eq_true] at h
    have h1 := fmtE_size y h.1
    have h2 := fmtL_size ys h.2
    rw [fmtL, sumS, szL]
    omega
end
theorem number_f : ∀ (k u : Nat), u < 10 ^ (k + 1) → u ≤ 32767 → ∃ n, substationref26_Number.f n (u : Int) = some (numB (u : Int))
  | 0, u, h, hu => ⟨1, by
    rw [substationref26_Number.f, if_pos (by omega), w64 (by omega) (by omega)]
    unfold numB strOfNums
    rw [Lib.decDigits, dif_pos (by omega)]
    have : ((48 + (u : Int)) % 256).toNat = 48 + (u : Int).toNat := by omega
    simp only [List.map_cons, List.map_nil, this]⟩
  | k + 1, u, h, hu => by
    by_cases h10 : u < 10
    · obtain ⟨n, hn⟩ := number_f 0 u (by omega) hu
      exact ⟨n, hn⟩
    obtain ⟨n1, h1⟩ := number_f k (u / 10) (by rw [Nat.pow_succ] at h; omega) (by omega)
    obtain ⟨n2, h2⟩ := number_f 0 (u % 10) (by omega) (by omega)
    refine ⟨max n1 n2 + 1, ?_⟩
    have e1 : wrap64 (Int.tdiv (u : Int) 10) = ((u / 10 : Nat) : Int) := by
      rw [show Int.tdiv (u : Int) 10 = ((u / 10 : Nat) : Int) from rfl, w64 (by omega) (by omega)]
    have e2 : Int.tmod (u : Int) 10 = ((u % 10 : Nat) : Int) := rfl
    have s1 := numB_size ((u / 10 : Nat) : Int) (by omega)
    have s2 := numB_size ((u % 10 : Nat) : Int) (by omega)
    rw [substationref26_Number.f, if_neg (by omega), e1, e2, lift_le (f := fun k => substationref26_Number.f k ((u / 10 : Nat) : Int)) (fun k => substationref26_Number.mono _ k) h1 (Nat.le_max_left _ _), Option.bind_some, lift_le (f := fun k => substationref26_Number.f k ((u % 10 : Nat) : Int)) (fun k => substationref26_Number.mono _ k) h2 (Nat.le_max_right _ _), Option.bind_some, if_pos (by omega)]
    congr 1
    unfold numB
    have e3 : Lib.decDigits (u : Int).toNat = Lib.decDigits (u / 10) ++ [UInt8.ofNat (48 + u % 10)] := by
      rw [show (u : Int).toNat = u from rfl, Lib.decDigits, dif_neg h10]
    have e4 : Lib.decDigits ((u % 10 : Nat) : Int).toNat = [UInt8.ofNat (48 + u % 10)] := by
      rw [show ((u % 10 : Nat) : Int).toNat = u % 10 from rfl, Lib.decDigits, dif_pos (by omega)]
    rw [e3, e4, show ((u / 10 : Nat) : Int).toNat = u / 10 from rfl]
    apply ByteArray.ext
    simp [bs, ByteArray.data_append]
theorem number_i (n : Int) (h0 : 0 ≤ n) (h1 : n ≤ 32767) : ∃ k, substationref26_Number.f k n = some (numB n) := by
  have := number_f 4 n.toNat (by omega) (by omega)
  rwa [show (n.toNat : Int) = n by omega] at this
end Go.Proofs.YtbbopomecanaoaaDoor.A
namespace Go.Proofs.YtbbopomecanaoaaDoor.A
open Go.RowKit Go.Proofs.YtbbopomecanaoaaDoorW.PrintWords Go.Proofs.YtbbopomecanaoaaDoorW.PrintLast Go.Proofs.YtbbopomecanaoaaDoorW.PrintMore Go.Proofs.YtbbopomecanaoaaDoor.XK
open Go.Proofs.YtbbopomecanaoaaDoor
set_option linter.unusedVariables false
set_option linter.unusedSimpArgs false
section
variable (op n : Int) (s : ByteArray) (L : List E) (ks : List ByteArray)
abbrev ops8 : List Int := [5, 6, 7, 8, 9, 10, 11, 12]
theorem l1_skip (k i : Nat) (hi : i < 8) (h : ¬ rd ops8 (i : Int) = op) : substationref26_text.l1 (k + 1) ks ops8 ((ops8.length : Nat) : Int) (i : Int) op n s L = substationref26_text.l1 k ks ops8 ((ops8.length : Nat) : Int) ((i + 1 : Nat) : Int) op n s L := by
  have hl : ((ops8.length : Nat) : Int) = 8 := rfl
  rw [substationref26_text.l1, if_pos (by omega), if_pos (by omega), if_pos (by omega), if_neg h, w64 (by omega) (by omega)]
  rfl
theorem l1_hit (k i : Nat) (hi : i < 8) (h : rd ops8 (i : Int) = op) (hk : 2 ≤ ks.length) (hs : sumS ks ≤ 1000000) (hz : ∀ j : Nat, j < 8 → (rdOf ByteArray.empty ([(⟨#[97, 110, 100]⟩ : ByteArray), (⟨#[111, 114]⟩ : ByteArray), (⟨#[120, 111, 114]⟩ : ByteArray), (⟨#[60]⟩ : ByteArray), (⟨#[62]⟩ : ByteArray), (⟨#[61]⟩ : ByteArray), (⟨#[43]⟩ : ByteArray), (⟨#[45]⟩ : ByteArray)] : List ByteArray) (j : Int)).size ≤ 3) :
    substationref26_text.l1 (k + 1) ks ops8 ((ops8.length : Nat) : Int) (i : Int) op n s L = some ((((((bs [40] ++ ks.getD 0 ByteArray.empty) ++ bs [32]) ++ rdOf ByteArray.empty ([(⟨#[97, 110, 100]⟩ : ByteArray), (⟨#[111, 114]⟩ : ByteArray), (⟨#[120, 111, 114]⟩ : ByteArray), (⟨#[60]⟩ : ByteArray), (⟨#[62]⟩ : ByteArray), (⟨#[61]⟩ : ByteArray), (⟨#[43]⟩ : ByteArray), (⟨#[45]⟩ : ByteArray)] : List ByteArray) (i : Int)) ++ bs [32]) ++ ks.getD 1 ByteArray.empty) ++ bs [41]) := by
  have hl : ((ops8.length : Nat) : Int) = 8 := rfl
  have hg := getS_le ks
  have hz := hz i hi
  have g0 : rdOf ByteArray.empty ks 0 = ks.getD 0 ByteArray.empty := rfl
  have g1 : rdOf ByteArray.empty ks 1 = ks.getD 1 ByteArray.empty := rfl
  rw [substationref26_text.l1, if_pos (by omega), if_pos (by omega), if_pos (by omega), if_pos h, g0, g1]
  generalize ks.getD 0 ByteArray.empty = x0 at *
  generalize ks.getD 1 ByteArray.empty = x1 at *
  rw [if_pos (by omega), if_pos (by omega), if_pos (by rw [ByteArray.size_append, bs_size]; simp; omega), Option.bind_some, if_pos (by show (i : Int) < 8; omega)]
  rw [if_pos (by simp only [ByteArray.size_append, bs_size, List.length_cons, List.length_nil]; omega), if_pos (by simp only [ByteArray.size_append, bs_size, List.length_cons, List.length_nil]; omega), if_pos (by omega), if_pos (by simp only [ByteArray.size_append, bs_size, List.length_cons, List.length_nil]; omega), if_pos (by simp only [ByteArray.size_append, bs_size, List.length_cons, List.length_nil]; omega)]
abbrev wordsW : List ByteArray := [bs [116, 114, 117, 101], bs [102, 97, 108, 115, 101], bs [110, 111, 116], bs [97, 110, 100], bs [111, 114], bs [120, 111, 114], bs [109, 105, 110], bs [109, 97, 120], bs [97, 98, 115], bs [105, 102], bs [114, 105, 115, 101], bs [102, 97, 108, 108], bs [100, 101, 108, 97, 121], bs [104, 111, 108, 100], bs [108, 97, 116, 99, 104], bs [99, 111, 117, 110, 116]]
abbrev opsW : List Int := [0, 0, 4, 5, 6, 7, 13, 14, 15, 16, 17, 18, 19, 20, 21, 22]
def lastW : Nat → Nat → ByteArray → ByteArray
  | 0, _, a => a
  | m + 1, i, a => lastW m (i + 1) (if rd opsW (i : Int) = op then rdOf ByteArray.empty wordsW (i : Int) else a)
theorem l2_run (k : Nat) (r : ByteArray) : ∀ (m i : Nat) (a : ByteArray), i + m = 16 → (lastW op m i a).size ≤ 100 → substationref26_text.l3 k ks (lastW op m i a ++ bs [40]) ((ks.length : Nat) : Int) 0 = some r →
    substationref26_text.l2 (k + 1 + m) ks wordsW opsW a ((opsW.length : Nat) : Int) (i : Int) op n s L = some r
  | 0, i, a, hi, hz, h => by
    have hl : ((opsW.length : Nat) : Int) = 16 := rfl
    rw [Nat.add_zero, substationref26_text.l2, if_neg (by omega), if_pos (by rw [lastW] at hz; omega)]
    rw [lastW] at h
    exact h
  | m + 1, i, a, hi, hz, h => by
    have hl : ((opsW.length : Nat) : Int) = 16 := rfl
    have hw : ((wordsW.length : Nat) : Int) = 16 := rfl
    rw [lastW] at h hz
    have ih := l2_run k r m (i + 1) _ (by omega) hz h
    have e1 : wrap64 ((i : Int) + 1) = ((i + 1 : Nat) : Int) := by rw [w64 (by omega) (by omega)]; rfl
    rw [← Nat.add_assoc, substationref26_text.l2, if_pos (by omega), if_pos (by omega), if_pos (by omega), e1]
    by_cases hc : rd opsW (i : Int) = op
    · rw [if_pos hc] at ih ⊢
      rw [if_pos (show (i : Int) < ((wordsW.length : Nat) : Int) by omega)]
      exact ih
    · rw [if_neg hc] at ih ⊢
      exact ih
theorem l3_run (hk : ks.length ≤ 1000) : ∀ (rest pre : List ByteArray) (a : ByteArray), pre ++ rest = ks → a.size + sumS rest + 2 * rest.length ≤ 1000000 →
    substationref26_text.l3 (rest.length + 1) ks a ((ks.length : Nat) : Int) (pre.length : Int) = some (argsB pre.isEmpty a rest ++ bs [41])
  | [], pre, a, e, hz => by
    rw [substationref26_text.l3, if_neg (by rw [← e]; simp), if_pos (by omega)]
    cases pre.isEmpty <;> rfl
  | y :: ys, pre, a, e, hz => by
    have hlen : (pre.length : Int) < (ks.length : Int) := by rw [← e]; simp; omega
    have e1 : rdOf ByteArray.empty ks (pre.length : Int) = y := by rw [← e]; unfold rdOf; simp
    rw [sumS, List.length_cons] at hz
    rw [List.length_cons, substationref26_text.l3, if_pos hlen, e1, w64 (by omega) (by omega), ← pre_len pre y]
    have e2 : (pre ++ [y]).isEmpty = false := by cases pre <;> rfl
    cases pre with
    | nil =>
      have ih := l3_run hk ys ([] ++ [y]) (a ++ y) (by rw [← e]; simp) (by rw [ByteArray.size_append]; omega)
      rw [if_neg (by simp), if_pos (by simp), if_pos hlen, if_pos (by omega), ih, e2]
      rfl
    | cons p ps =>
      have z2 : (bs [44, 32]).size = 2 := rfl
      have z3 : (⟨#[44, 32]⟩ : ByteArray).size = 2 := rfl
      have ih := l3_run hk ys (p :: ps ++ [y]) ((a ++ bs [44, 32]) ++ y) (by rw [← e]; simp) (by rw [ByteArray.size_append, ByteArray.size_append]; omega)
      rw [if_pos (by simp), if_pos (by omega), if_pos (by omega), if_pos hlen, if_pos (by rw [ByteArray.size_append]; omega), ih, e2]
      rfl
theorem j1_low (hk : 2 ≤ ks.length) (hs : sumS ks ≤ 1000000) (h5 : 5 ≤ op) (h12 : op ≤ 12) :
    ∃ k, substationref26_text.j1 k ks op n s L = some ((((((bs [40] ++ ks.getD 0 ByteArray.empty) ++ bs [32]) ++ bs (signL op)) ++ bs [32]) ++ ks.getD 1 ByteArray.empty) ++ bs [41]) := by
  have hz : ∀ j : Nat, j < 8 → (rdOf ByteArray.empty ([(⟨#[97, 110, 100]⟩ : ByteArray), (⟨#[111, 114]⟩ : ByteArray), (⟨#[120, 111, 114]⟩ : ByteArray), (⟨#[60]⟩ : ByteArray), (⟨#[62]⟩ : ByteArray), (⟨#[61]⟩ : ByteArray), (⟨#[43]⟩ : ByteArray), (⟨#[45]⟩ : ByteArray)] : List ByteArray) (j : Int)).size ≤ 3 := by
    intro j hj
    rcases (by omega : j = 0 ∨ j = 1 ∨ j = 2 ∨ j = 3 ∨ j = 4 ∨ j = 5 ∨ j = 6 ∨ j = 7) with rfl | rfl | rfl | rfl | rfl | rfl | rfl | rfl <;> decide
  have step : ∀ (m i : Nat), i + m < 8 → (∀ j : Nat, i ≤ j → j < i + m → ¬ rd ops8 (j : Int) = op) → rd ops8 ((i + m : Nat) : Int) = op →
      substationref26_text.l1 (m + 1) ks ops8 ((ops8.length : Nat) : Int) (i : Int) op n s L = some ((((((bs [40] ++ ks.getD 0 ByteArray.empty) ++ bs [32]) ++ rdOf ByteArray.empty ([(⟨#[97, 110, 100]⟩ : ByteArray), (⟨#[111, 114]⟩ : ByteArray), (⟨#[120, 111, 114]⟩ : ByteArray), (⟨#[60]⟩ : ByteArray), (⟨#[62]⟩ : ByteArray), (⟨#[61]⟩ : ByteArray), (⟨#[43]⟩ : ByteArray), (⟨#[45]⟩ : ByteArray)] : List ByteArray) ((i + m : Nat) : Int)) ++ bs [32]) ++ ks.getD 1 ByteArray.empty) ++ bs [41]) := by
    intro m
    induction m with
    | zero => intro i hi hn hh; exact l1_hit op n s L ks 0 i hi hh hk hs hz
    | succ m ih =>
      intro i hi hn hh
      rw [l1_skip op n s L ks (m + 1) i (by omega) (hn i (Nat.le_refl _) (by omega)), ih (i + 1) (by omega) (fun j h1 h2 => hn j (by omega) (by omega)) (by rw [show i + 1 + m = i + (m + 1) by omega]; exact hh), show i + 1 + m = i + (m + 1) by omega]
  rcases (by omega : op = 5 ∨ op = 6 ∨ op = 7 ∨ op = 8 ∨ op = 9 ∨ op = 10 ∨ op = 11 ∨ op = 12) with h | h | h | h | h | h | h | h
  · refine ⟨2, ?_⟩; rw [substationref26_text.j1, Option.bind_some, show (0 : Int) = ((0 : Nat) : Int) from rfl, step 0 0 (by decide) (fun j h1 h2 => by omega) (by rw [h]; rfl), h]; rfl
  · refine ⟨3, ?_⟩; rw [substationref26_text.j1, Option.bind_some, show (0 : Int) = ((0 : Nat) : Int) from rfl, step 1 0 (by decide) (fun j h1 h2 => by rw [h, show j = 0 by omega]; decide) (by rw [h]; rfl), h]; rfl
  · refine ⟨4, ?_⟩; rw [substationref26_text.j1, Option.bind_some, show (0 : Int) = ((0 : Nat) : Int) from rfl, step 2 0 (by decide) (fun j h1 h2 => by rw [h]; rcases (by omega : j = 0 ∨ j = 1) with rfl | rfl <;> decide) (by rw [h]; rfl), h]; rfl
  · refine ⟨5, ?_⟩; rw [substationref26_text.j1, Option.bind_some, show (0 : Int) = ((0 : Nat) : Int) from rfl, step 3 0 (by decide) (fun j h1 h2 => by rw [h]; rcases (by omega : j = 0 ∨ j = 1 ∨ j = 2) with rfl | rfl | rfl <;> decide) (by rw [h]; rfl), h]; rfl
  · refine ⟨6, ?_⟩; rw [substationref26_text.j1, Option.bind_some, show (0 : Int) = ((0 : Nat) : Int) from rfl, step 4 0 (by decide) (fun j h1 h2 => by rw [h]; rcases (by omega : j = 0 ∨ j = 1 ∨ j = 2 ∨ j = 3) with rfl | rfl | rfl | rfl <;> decide) (by rw [h]; rfl), h]; rfl
  · refine ⟨7, ?_⟩; rw [substationref26_text.j1, Option.bind_some, show (0 : Int) = ((0 : Nat) : Int) from rfl, step 5 0 (by decide) (fun j h1 h2 => by rw [h]; rcases (by omega : j = 0 ∨ j = 1 ∨ j = 2 ∨ j = 3 ∨ j = 4) with rfl | rfl | rfl | rfl | rfl <;> decide) (by rw [h]; rfl), h]; rfl
  · refine ⟨8, ?_⟩; rw [substationref26_text.j1, Option.bind_some, show (0 : Int) = ((0 : Nat) : Int) from rfl, step 6 0 (by decide) (fun j h1 h2 => by rw [h]; rcases (by omega : j = 0 ∨ j = 1 ∨ j = 2 ∨ j = 3 ∨ j = 4 ∨ j = 5) with rfl | rfl | rfl | rfl | rfl | rfl <;> decide) (by rw [h]; rfl), h]; rfl
  · refine ⟨9, ?_⟩; rw [substationref26_text.j1, Option.bind_some, show (0 : Int) = ((0 : Nat) : Int) from rfl, step 7 0 (by decide) (fun j h1 h2 => by rw [h]; rcases (by omega : j = 0 ∨ j = 1 ∨ j = 2 ∨ j = 3 ∨ j = 4 ∨ j = 5 ∨ j = 6) with rfl | rfl | rfl | rfl | rfl | rfl | rfl <;> decide) (by rw [h]; rfl), h]; rfl
theorem j1_high (hk : ks.length ≤ 1000) (hs : sumS ks + 2 * ks.length ≤ 900000) (h13 : 13 ≤ op) (h22 : op ≤ 22) :
    ∃ k, substationref26_text.j1 k ks op n s L = some (argsB true (bs (callL op) ++ bs [40]) ks ++ bs [41]) := by
  have hne : ∀ j : Nat, j < 8 → ¬ rd ops8 (j : Int) = op := by
    intro j hj
    rcases (by omega : j = 0 ∨ j = 1 ∨ j = 2 ∨ j = 3 ∨ j = 4 ∨ j = 5 ∨ j = 6 ∨ j = 7) with rfl | rfl | rfl | rfl | rfl | rfl | rfl | rfl <;> (intro h; revert h; show ¬ (_ : Int) = op; simp [rd]; omega)
  have hw : lastW op 16 0 (⟨#[]⟩ : ByteArray) = bs (callL op) := by
    rcases (by omega : op = 13 ∨ op = 14 ∨ op = 15 ∨ op = 16 ∨ op = 17 ∨ op = 18 ∨ op = 19 ∨ op = 20 ∨ op = 21 ∨ op = 22) with rfl | rfl | rfl | rfl | rfl | rfl | rfl | rfl | rfl | rfl <;> decide
  have hc := call_len op
  have h3 := l3_run ks hk ks [] (bs (callL op) ++ bs [40]) rfl (by rw [ByteArray.size_append, bs_size, bs_size]; simp; omega)
  have h2 := l2_run op n s L ks (ks.length + 1) _ 16 0 (⟨#[]⟩ : ByteArray) rfl (by rw [hw, bs_size]; omega) (by rw [hw]; exact h3)
  refine ⟨ks.length + 1 + 1 + 16 + 1 + 8 + 1, ?_⟩
  rw [substationref26_text.j1, Option.bind_some, show (0 : Int) = ((0 : Nat) : Int) from rfl]
  rw [show ks.length + 1 + 1 + 16 + 1 + 8 = (ks.length + 1 + 1 + 16 + 1 + 7) + 1 from rfl, l1_skip op n s L ks _ 0 (by decide) (hne 0 (by decide))]
  rw [show ks.length + 1 + 1 + 16 + 1 + 7 = (ks.length + 1 + 1 + 16 + 1 + 6) + 1 from rfl, l1_skip op n s L ks _ 1 (by decide) (hne 1 (by decide))]
  rw [show ks.length + 1 + 1 + 16 + 1 + 6 = (ks.length + 1 + 1 + 16 + 1 + 5) + 1 from rfl, l1_skip op n s L ks _ 2 (by decide) (hne 2 (by decide))]
  rw [show ks.length + 1 + 1 + 16 + 1 + 5 = (ks.length + 1 + 1 + 16 + 1 + 4) + 1 from rfl, l1_skip op n s L ks _ 3 (by decide) (hne 3 (by decide))]
  rw [show ks.length + 1 + 1 + 16 + 1 + 4 = (ks.length + 1 + 1 + 16 + 1 + 3) + 1 from rfl, l1_skip op n s L ks _ 4 (by decide) (hne 4 (by decide))]
  rw [show ks.length + 1 + 1 + 16 + 1 + 3 = (ks.length + 1 + 1 + 16 + 1 + 2) + 1 from rfl, l1_skip op n s L ks _ 5 (by decide) (hne 5 (by decide))]
  rw [show ks.length + 1 + 1 + 16 + 1 + 2 = (ks.length + 1 + 1 + 16 + 1 + 1) + 1 from rfl, l1_skip op n s L ks _ 6 (by decide) (hne 6 (by decide))]
  rw [show ks.length + 1 + 1 + 16 + 1 + 1 = (ks.length + 1 + 1 + 16 + 1) + 1 from rfl, l1_skip op n s L ks _ 7 (by decide) (hne 7 (by decide))]
  rw [substationref26_text.l1, if_neg (by decide)]
  unfold substationref26_Words.f
  rw [Option.bind_some]
  exact h2
end
theorem bound_of {op : Int} (h : op = 19 ∨ op = 20) : boundI op = 500 := by rcases h with rfl | rfl <;> rfl
theorem text_end (x : E) (hn : nodeB x = true) (hs : sumS (fmtL x.f3) ≤ 100000) : ∃ k, substationref26_text.l0 k (fmtL x.f3) x.f3 (x.f3.length : Int) (x.f3.length : Int) x.f0 x.f1 x.f2 x.f3 = some (fmtE x) := by
  obtain ⟨h1, h2, h3, h4, -⟩ := node_facts hn
  have hl := fmtL_len x.f3
  have ha := arity3 x.f0
  have hr : 1 ≤ x.f0 ∧ x.f0 ≤ 22 := by
    cases Decidable.em (1 ≤ x.f0 ∧ x.f0 ≤ 22) with
    | inl h => exact h
    | inr h =>
      have e2 : arityI x.f0 = -1 := by
        unfold arityI
        rw [if_neg (by omega), if_neg (by omega), if_neg (by omega), if_neg (by omega)]
      omega
  rw [fmtE_eq]
  unfold fmtN
  generalize hks : fmtL x.f3 = ks at *
  by_cases c1 : x.f0 = 1
  · rw [if_pos c1]
    rw [c1] at h4
    have h4 : x.f1 ≤ 1 := h4
    refine ⟨1, ?_⟩
    rw [substationref26_text.l0, if_neg (by omega), if_pos c1, Option.bind_some, if_pos h3, if_pos (by show x.f1 < 2; omega)]
    rcases (by omega : x.f1 = 0 ∨ x.f1 = 1) with h | h <;> rw [h] <;> rfl
  rw [if_neg c1]
  by_cases c2 : x.f0 = 2
  · rw [if_pos c2]
    rw [c2] at h4
    have h4 : x.f1 ≤ 32767 := h4
    obtain ⟨k, hk⟩ := number_i x.f1 h3 h4
    refine ⟨k + 1, ?_⟩
    rw [substationref26_text.l0, if_neg (by omega), if_neg c1, if_pos c2, hk]
    rfl
  rw [if_neg c2]
  by_cases c3 : x.f0 = 3
  · rw [if_pos c3]
    refine ⟨1, ?_⟩
    rw [substationref26_text.l0, if_neg (by omega), if_neg c1, if_neg c2, if_pos c3]
  rw [if_neg c3]
  by_cases c4 : x.f0 = 4
  · rw [if_pos c4]
    rw [c4] at h2
    have h2 : (x.f3.length : Int) = 1 := h2
    have hg := getS_le ks
    refine ⟨1, ?_⟩
    have g0 : rdOf ByteArray.empty ks 0 = ks.getD 0 ByteArray.empty := rfl
    rw [substationref26_text.l0, if_neg (by omega), if_neg c1, if_neg c2, if_neg c3, if_pos c4, g0, if_pos (by omega), if_pos (by omega), if_pos (by simp only [ByteArray.size_append, bs_size, List.length_cons, List.length_nil]; omega)]
  rw [if_neg c4]
  by_cases c12 : x.f0 ≤ 12
  · rw [if_pos c12]
    have h2 : arityI x.f0 = 2 := by unfold arityI; rw [if_neg (by omega), if_neg (by omega), if_pos (by omega)]
    obtain ⟨k, hk⟩ := j1_low x.f0 x.f1 x.f2 x.f3 ks (by omega) (by omega) (by omega) c12
    refine ⟨k + 1, ?_⟩
    rw [substationref26_text.l0, if_neg (by omega), if_neg c1, if_neg c2, if_neg c3, if_neg c4, if_neg (by omega), if_neg (by omega)]
    exact hk
  rw [if_neg c12]
  by_cases c19 : x.f0 = 19 ∨ x.f0 = 20
  · rw [if_pos c19]
    have h4 : x.f1 ≤ 500 := by rw [bound_of c19] at h4; exact h4
    obtain ⟨k1, hk1⟩ := number_i x.f1 h3 (by omega)
    have hz := numB_size x.f1 (by omega)
    obtain ⟨k2, hk2⟩ := j1_high x.f0 x.f1 x.f2 x.f3 (ks ++ [numB x.f1]) (by rw [List.length_append]; simp; omega) (by rw [sumS_app, sumS, sumS, List.length_append]; simp; omega) (by omega) (by omega)
    refine ⟨max k1 k2 + 1, ?_⟩
    have e1 := lift_le (f := fun k => substationref26_Number.f k x.f1) (fun k => substationref26_Number.mono _ k) hk1 (Nat.le_max_left k1 k2)
    have e2 := lift_le (f := fun k => substationref26_text.j1 k (ks ++ [numB x.f1]) x.f0 x.f1 x.f2 x.f3) (fun k => (substationref26_text.mono_l k).2.2.1 _ _ _ _ _) hk2 (Nat.le_max_right k1 k2)
    rw [substationref26_text.l0, if_neg (by omega), if_neg c1, if_neg c2, if_neg c3, if_neg c4]
    by_cases d19 : x.f0 = 19
    · rw [if_pos d19, e1, Option.bind_some, if_pos (by omega), e2]
    · rw [if_neg d19, if_pos (by omega), e1, Option.bind_some, if_pos (by omega), e2]
  · rw [if_neg c19]
    obtain ⟨k, hk⟩ := j1_high x.f0 x.f1 x.f2 x.f3 ks (by omega) (by omega) (by omega) (by omega)
    refine ⟨k + 1, ?_⟩
    rw [substationref26_text.l0, if_neg (by omega), if_neg c1, if_neg c2, if_neg c3, if_neg c4, if_neg (by omega), if_neg (by omega)]
    exact hk
theorem text_loop (x : E) (hl : x.f3.length ≤ 1000) (hf : ∀ y ∈ x.f3, ∃ k, substationref26_text.f k y.f0 y.f1 y.f2 y.f3 = some (fmtE y))
    (hend : ∃ k, substationref26_text.l0 k (fmtL x.f3) x.f3 (x.f3.length : Int) (x.f3.length : Int) x.f0 x.f1 x.f2 x.f3 = some (fmtE x)) :
    ∀ (rest pre : List E), pre ++ rest = x.f3 → ∃ k, substationref26_text.l0 k (fmtL pre) x.f3 (x.f3.length : Int) (pre.length : Int) x.f0 x.f1 x.f2 x.f3 = some (fmtE x)
  | [], pre, e => by
    rw [List.append_nil] at e
    rw [e]
    exact hend
  | y :: ys, pre, e => by
    obtain ⟨k1, h1⟩ := hf y (by rw [← e]; simp)
    obtain ⟨k2, h2⟩ := text_loop x hl hf hend ys (pre ++ [y]) (by rw [← e]; simp)
    have hlen : (pre.length : Int) < (x.f3.length : Int) := by rw [← e]; simp; omega
    have e1 : rd_T24 x.f3 (pre.length : Int) = y := by rw [← e]; exact rd_pre pre ys y
    have e2 : fmtL (pre ++ [y]) = fmtL pre ++ [fmtE y] := by rw [fmtL_app, fmtL, fmtL]
    have e3 := fmtL_len pre
    rw [e2] at h2
    refine ⟨max k1 k2 + 1, ?_⟩
    rw [substationref26_text.l0, if_pos hlen, if_pos (by omega), if_pos hlen, e1, lift_le (f := fun k => substationref26_text.f k y.f0 y.f1 y.f2 y.f3) (fun k => substationref26_text.mono _ _ _ _ k) h1 (Nat.le_max_left _ _), Option.bind_some, if_pos (by omega), w64 (by omega) (by omega), ← pre_len pre y,
      lift_le (f := fun k => substationref26_text.l0 k (fmtL pre ++ [fmtE y]) x.f3 (x.f3.length : Int) (((pre ++ [y]).length : Nat) : Int) x.f0 x.f1 x.f2 x.f3) (fun k => (substationref26_text.mono_l k).2.1 _ _ _ _ _ _ _ _) h2 (Nat.le_max_right _ _)]
theorem text_f : ∀ (m : Nat) (x : E), szE x ≤ m → m ≤ 1000 → bE x = true → ∃ k, substationref26_text.f k x.f0 x.f1 x.f2 x.f3 = some (fmtE x)
  | 0, x, h, hm, hb => by
    have := szE_eq x
    omega
  | m + 1, x, h, hm, hb => by
    have hz := szE_eq x
    have hb' := hb
    rw [bE_eq, Bool.and_eq_true] at hb
    obtain ⟨-, h2, -, -, -⟩ := node_facts hb.1
    have ha := arity3 x.f0
    have hsz := fmtL_size x.f3 hb.2
    obtain ⟨k, hk⟩ := text_loop x (by omega) (fun y hy => text_f m y (by have := szE_mem hy; omega) (by omega) (bE_mem hb.2 hy)) (text_end x hb.1 (by omega)) x.f3 [] rfl
    refine ⟨k + 1, ?_⟩
    rw [substationref26_text.f]
    rw [fmtL] at hk
    exact hk
def FormatB (x : E) : ByteArray := if validB x = true then fmtE x else bs []
theorem rformat (k : Nat) (hk : k ≤ 1000) (x : E) (h : smF k x = true) : ∃ n, substationref26_Format.f n x.f0 x.f1 x.f2 x.f3 = some (FormatB x) := by
  obtain ⟨n1, h1⟩ := rvalid k hk x h
  unfold FormatB
  cases hv : validB x with
  | false =>
    refine ⟨n1, ?_⟩
    rw [substationref26_Format.f, h1, Option.bind_some, hv, if_neg (by decide), if_neg (by decide)]
  | true =>
    obtain ⟨h2, h3, h4⟩ := (validB_is x).mp hv
    obtain ⟨n2, h5⟩ := text_f (szE x) x (Nat.le_refl _) (by omega) h4
    refine ⟨max n1 n2, ?_⟩
    rw [substationref26_Format.f, lift_le (f := fun k => substationref26_Valid.f k x.f0 x.f1 x.f2 x.f3) (fun k => substationref26_Valid.mono _ _ _ _ k) h1 (Nat.le_max_left _ _), Option.bind_some, hv, if_pos rfl, if_pos rfl, lift_le (f := fun k => substationref26_text.f k x.f0 x.f1 x.f2 x.f3) (fun k => substationref26_text.mono _ _ _ _ k) h5 (Nat.le_max_right _ _), Option.bind_some]
end Go.Proofs.YtbbopomecanaoaaDoor.A
