import Derived.Test.YtbbopomecanaoaaDoorBC10
import Derived.Lib.ItoaMem
/- The texts that the law's proof stands on, merged and pruned by program. No condition. -/
namespace Go.Proofs.YtbbopomecanaoaaDoor.A
open Go.RowKit Go.Proofs.YtbbopomecanaoaaDoorW.PrintWords Go.Proofs.YtbbopomecanaoaaDoorW.PrintLast Go.Proofs.YtbbopomecanaoaaDoorW.PrintMore Go.Proofs.YtbbopomecanaoaaDoor.XK
open Go.Proofs.YtbbopomecanaoaaDoor
set_option linter.unusedVariables false
set_option linter.unusedSimpArgs false
def numB (n : Int) : ByteArray := bs (Lib.decDigits n.toNat)
def signL (op : Int) : List UInt8 := if op = 5 then [97, 110, 100] else if op = 6 then [111, 114] else if op = 7 then [120, 111, 114] else if op = 8 then [60] else if op = 9 then [62] else if op = 10 then [61] else if op = 11 then [43] else [45]
def callL (op : Int) : List UInt8 := if op = 13 then [109, 105, 110] else if op = 14 then [109, 97, 120] else if op = 15 then [97, 98, 115] else if op = 16 then [105, 102] else if op = 17 then [114, 105, 115, 101] else if op = 18 then [102, 97, 108, 108] else if op = 19 then [100, 101, 108, 97, 121] else if op = 20 then [104, 111, 108, 100] else if op = 21 then [108, 97, 116, 99, 104] else [99, 111, 117, 110, 116]
def argsB : Bool → ByteArray → List ByteArray → ByteArray
  | _, a, [] => a
  | true, a, x :: xs => argsB false (a ++ x) xs
  | false, a, x :: xs => argsB false ((a ++ bs [44, 32]) ++ x) xs
def fmtN (op n : Int) (s : ByteArray) (ks : List ByteArray) : ByteArray :=
  if op = 1 then (if n = 1 then bs [116, 114, 117, 101] else bs [102, 97, 108, 115, 101])
  else if op = 2 then numB n
  else if op = 3 then s
  else if op = 4 then (bs [40, 110, 111, 116, 32] ++ ks.getD 0 ByteArray.empty) ++ bs [41]
  else if op ≤ 12 then (((((bs [40] ++ ks.getD 0 ByteArray.empty) ++ bs [32]) ++ bs (signL op)) ++ bs [32]) ++ ks.getD 1 ByteArray.empty) ++ bs [41]
  else argsB true (bs (callL op) ++ bs [40]) (if op = 19 ∨ op = 20 then ks ++ [numB n] else ks) ++ bs [41]
mutual
def fmtE : E → ByteArray
  | ⟨o, n, s, ks⟩ => fmtN o n s (fmtL ks)
def fmtL : List E → List ByteArray
  | [] => []
  | y :: ys => fmtE y :: fmtL ys
end
theorem fmtE_eq (x : E) : fmtE x = fmtN x.f0 x.f1 x.f2 (fmtL x.f3) := by cases x; rw [fmtE]
theorem fmtL_len : ∀ l : List E, (fmtL l).length = l.length
  | [] => by rw [fmtL]; rfl
  | y :: ys => by rw [fmtL, List.length_cons, List.length_cons, fmtL_len ys]
theorem dec_len : ∀ n u : Nat, u < 10 ^ (n + 1) → (Lib.decDigits u).length ≤ n + 1
  | 0, u, h => by rw [Lib.decDigits, dif_pos (by omega)]; exact Nat.le_refl _
  | n + 1, u, h => by
    rw [Lib.decDigits]
    split
    · simp
    · rw [List.length_append]
      have := dec_len n (u / 10) (by rw [Nat.pow_succ] at h; omega)
      simp
      omega
theorem bs_size (l : List UInt8) : (bs l).size = l.length := by
  show l.toArray.size = l.length
  simp
theorem numB_size (n : Int) (h : n ≤ 32767) : (numB n).size ≤ 5 := by
  unfold numB
  rw [bs_size]
  exact dec_len 4 n.toNat (by omega)
theorem sign_len (op : Int) : (signL op).length ≤ 3 := by
  unfold signL
  repeat' split
  all_goals decide
theorem call_len (op : Int) : (callL op).length ≤ 5 := by
  unfold callL
  repeat' split
  all_goals decide
def sumS : List ByteArray → Nat
  | [] => 0
  | x :: xs => x.size + sumS xs
theorem sumS_app : ∀ a b : List ByteArray, sumS (a ++ b) = sumS a + sumS b
  | [], b => by simp [sumS]
  | x :: xs, b => by rw [List.cons_append, sumS, sumS, sumS_app xs b]; omega
theorem argsB_size : ∀ (f : Bool) (a : ByteArray) (l : List ByteArray), (argsB f a l).size ≤ a.size + sumS l + 2 * l.length
  | f, a, [] => by
    cases f <;> simp [argsB, sumS]
  | true, a, x :: xs => by
    have := argsB_size false (a ++ x) xs
    rw [argsB, sumS, List.length_cons]
    rw [ByteArray.size_append] at this
    omega
  | false, a, x :: xs => by
    have := argsB_size false ((a ++ bs [44, 32]) ++ x) xs
    have e2 : (bs [44, 32]).size = 2 := rfl
    rw [argsB, sumS, List.length_cons]
    rw [ByteArray.size_append, ByteArray.size_append] at this
    omega
theorem getS_le (l : List ByteArray) : (l.getD 0 ByteArray.empty).size + (l.getD 1 ByteArray.empty).size ≤ sumS l := by
  cases l with
  | nil => simp [sumS]
  | cons x xs =>
    cases xs with
    | nil => simp [sumS]
    | cons y ys => simp [sumS]
theorem fmtN_size (op n : Int) (s : ByteArray) (ks : List ByteArray) (hs : s.size ≤ 12) (hn : n ≤ 32767) : (fmtN op n s ks).size ≤ 25 + sumS ks + 2 * ks.length := by
  have hg := getS_le ks
  unfold fmtN
  split
  · split <;> rw [bs_size] <;> simp <;> omega
  split
  · have := numB_size n hn; omega
  split
  · omega
  split
  · simp only [ByteArray.size_append, bs_size, List.length_cons, List.length_nil]; omega
  split
  · have := sign_len op
    simp only [ByteArray.size_append, bs_size, List.length_cons, List.length_nil]; omega
  · have h1 := argsB_size true (bs (callL op) ++ bs [40]) (if op = 19 ∨ op = 20 then ks ++ [numB n] else ks)
    have h2 := call_len op
    have h3 := numB_size n hn
    simp only [ByteArray.size_append, bs_size, List.length_cons, List.length_nil] at h1 ⊢
    by_cases hc : op = 19 ∨ op = 20
    · rw [if_pos hc] at h1 ⊢
      rw [sumS_app, sumS, sumS, List.length_append, List.length_cons, List.length_nil] at h1
      omega
    · rw [if_neg hc] at h1 ⊢
      omega
theorem nameE_size (s : ByteArray) (h : nameE s = true) : s.size ≤ 12 := by
  unfold nameE sNameB at h
  rw [Bool.and_eq_true] at h
  have := h.1
  split at this
  · cases this
  · split at this
    · cases this
    · omega
theorem node_facts {x : E} (h : nodeB x = true) : x.f2.size ≤ 12 ∧ (x.f3.length : Int) = arityI x.f0 ∧ 0 ≤ x.f1 ∧ x.f1 ≤ boundI x.f0 ∧ namedB x = true := by
  unfold nodeB at h
  simp only [Bool.and_eq_true, decide_eq_true_eq] at h
  obtain ⟨⟨⟨h1, h2⟩, h3⟩, h4⟩ := h
  refine ⟨?_, h2, h3, h4, h1⟩
  unfold namedB at h1
  split at h1
  · exact nameE_size _ h1
  · have := (tol_nil _).mp (of_decide_eq_true h1)
    omega
theorem arity3 (op : Int) : arityI op ≤ 3 := by
  unfold arityI
  repeat' split
  all_goals decide
theorem bound_le (op : Int) : boundI op ≤ 32767 := by
  unfold boundI
  repeat' split
  all_goals decide
mutual
theorem fmtE_size : ∀ x : E, bE x = true → (fmtE x).size ≤ 31 * szE x
  | ⟨o, n, s, ks⟩, h => by
    rw [bE, Bool.and_eq_true] at h
    obtain ⟨h1, h2, h3, h4, -⟩ := node_facts h.1
    have h5 := fmtL_size ks h.2
    have h6 := arity3 o
    have h7 := bound_le o
    have h8 := fmtN_size o n s (fmtL ks) h1 (by simp at h4; omega)
    rw [fmtL_len] at h8
    rw [fmtE, szE]
    simp at h2
    omega
theorem fmtL_size : ∀ l : List E, bL l = true → sumS (fmtL l) ≤ 31 * szL l
  | [], _ => by rw [fmtL, sumS]; omega
  | y :: ys, h => by
    rw [bL, Bool.and_eq_true] at h
    have h1 := fmtE_size y h.1
    have h2 := fmtL_size ys h.2
    rw [fmtL, sumS, szL]
    omega
end
end Go.Proofs.YtbbopomecanaoaaDoor.A
namespace Go.Proofs.YtbbopomecanaoaaDoor.A
open Go.RowKit Go.Proofs.YtbbopomecanaoaaDoorW.PrintWords Go.Proofs.YtbbopomecanaoaaDoorW.PrintLast Go.Proofs.YtbbopomecanaoaaDoorW.PrintMore Go.Proofs.YtbbopomecanaoaaDoor.XK
open Go.Proofs.YtbbopomecanaoaaDoor
set_option linter.unusedVariables false
set_option linter.unusedSimpArgs false
section
variable (op n : Int) (s : ByteArray) (L : List E) (ks : List ByteArray)
end
def FormatB (x : E) : ByteArray := if validB x = true then fmtE x else bs []
end Go.Proofs.YtbbopomecanaoaaDoor.A
