/- A part of the claim's own texts: words, walks and plain laws. -/
import Derived.Test.YthaifibhflfpkaaTb2
import Derived.Test.YthaifibhflfpkaaTb10
import Derived.Test.YthaifibhflfpkaaTb6
import Derived.Test.YthaifibhflfpkaaTb7
namespace Go.Proofs.YthaifibhflfpkaaX
abbrev b58_ : Array Bool := #[true, true, false, false, false, false, false, false, false, false, false, false, false]
abbrev b59_ : Array Bool := #[true, true, true, false, false, false, false, false, false, false, false, false, false]
abbrev b60_ : Array Bool := #[true, true, true, false, false, true, false, false, false, false, false, false, false]
abbrev b61_ : Array Bool := #[true, true, true, false, false, true, true, false, false, false, false, false, false]
abbrev b62_ : Array Bool := #[true, true, true, false, false, true, true, true, false, false, false, false, false]
abbrev b63_ : Array Bool := #[true, true, true, false, false, true, true, true, true, false, false, false, false]
abbrev b64_ : Array Bool := #[true, true, true, false, true, false, false, false, false, false]
abbrev b65_ : Array Bool := #[true, true, true, false, true, true, false, false, false, false]
abbrev b66_ : Array Bool := #[true, true, true, false, true, true, true, false, false, false]
abbrev b67_ : Array Bool := #[true, true, true, true, true, true, true, false, false, false]
abbrev b68_ : Array Bool := #[true, true, true, true, true, true, true, true, true, false, false, true, false]
abbrev b69_ : Array Bool := #[true, true, true, true, true, true, true, true, true, true, false, true, false]
end Go.Proofs.YthaifibhflfpkaaX
section
namespace Go.Proofs.Ythaifibhflfpkaa.Q
open Go.RowKit Go.Proofs.YthaifibhflfpkaaW.PrintWords Go.Proofs.YthaifibhflfpkaaW.PrintLast Go.Proofs.YthaifibhflfpkaaW.PrintMore Go.Proofs.YthaifibhflfpkaaX
attribute [local go_sem] max2_int min2_int max_two min_two max_three min_three max_four min_four   -- for this text's walks alone
set_option linter.unusedVariables false
set_option linter.unusedSimpArgs false
mutual
def pfor_read.j0 : Nat → List Int → Bool → Option (List Int × Int × Bool)
 | 0, _, _ => none
 | k + 1, x0, x33 => if x33 = true then (some (([] : List Int), 0, false)) else (if 0 < (x0.length : Int) then (if 1 ≤ (x0.length : Int) then ((num_Take.f k (x0.drop 1)).bind fun bt624 => (if bt624.2.2 = 0 then (if (x0.length : Int) < (wrap64 ((wrap64 (1 + bt624.2.1)) + 2)) then (pfor_read.j1 k x0 (wrap64 (rd x0 0)) bt624.1 (wrap64 (1 + bt624.2.1)) true) else (if 0 ≤ (wrap64 (1 + bt624.2.1)) then (if (wrap64 (1 + bt624.2.1)) < (x0.length : Int) then (if (rd x0 (wrap64 (1 + bt624.2.1))) > 64 then (pfor_read.j1 k x0 (wrap64 (rd x0 0)) bt624.1 (wrap64 (1 + bt624.2.1)) true) else (if 0 ≤ (wrap64 ((wrap64 (1 + bt624.2.1)) + 1)) then (if (wrap64 ((wrap64 (1 + bt624.2.1)) + 1)) < (x0.length : Int) then (pfor_read.j1 k x0 (wrap64 (rd x0 0)) bt624.1 (wrap64 (1 + bt624.2.1)) (decide ((wrap64 (rd x0 (wrap64 ((wrap64 (1 + bt624.2.1)) + 1)))) > (wrap64 (rd x0 0))))) else (none)) else (none))) else (none)) else (none))) else (pfor_read.j1 k x0 (wrap64 (rd x0 0)) bt624.1 (wrap64 (1 + bt624.2.1)) true))) else (none)) else (none))
def pfor_read.j1 : Nat → List Int → Int → Int → Int → Bool → Option (List Int × Int × Bool)
 | 0, _, _, _, _, _ => none
 | k + 1, x0, x5, x6, x9, x72 => if x72 = true then (some (([] : List Int), 0, false)) else (if 0 ≤ x9 then (if x9 < (x0.length : Int) then (if 0 ≤ (wrap64 (x9 + 1)) then (if (wrap64 (x9 + 1)) < (x0.length : Int) then (if (wrap64 ((wrap64 (x9 + 2)) + (wrap64 (Int.tdiv (wrap64 ((wrap64 (x5 * (wrap64 (rd x0 x9)))) + 7)) 8)))) > (x0.length : Int) then (some (([] : List Int), 0, false)) else (if 0 ≤ (wrap64 (x9 + 2)) then (if (wrap64 (x9 + 2)) ≤ (wrap64 ((wrap64 (x9 + 2)) + (wrap64 (Int.tdiv (wrap64 ((wrap64 (x5 * (wrap64 (rd x0 x9)))) + 7)) 8)))) then (if (wrap64 ((wrap64 (x9 + 2)) + (wrap64 (Int.tdiv (wrap64 ((wrap64 (x5 * (wrap64 (rd x0 x9)))) + 7)) 8)))) ≤ (x0.length : Int) then ((bits_Unpack.f k ((x0.take ((wrap64 ((wrap64 (x9 + 2)) + (wrap64 (Int.tdiv (wrap64 ((wrap64 (x5 * (wrap64 (rd x0 x9)))) + 7)) 8)))) : Int).toNat).drop ((wrap64 (x9 + 2)) : Int).toNat) x5 (wrap64 (rd x0 x9))).bind fun bt635 => (if bt635.2 = 0 then (pfor_read.l0 k x0 x5 x6 (wrap64 ((wrap64 (x9 + 2)) + (wrap64 (Int.tdiv (wrap64 ((wrap64 (x5 * (wrap64 (rd x0 x9)))) + 7)) 8)))) (wrap64 (rd x0 x9)) (wrap64 (rd x0 (wrap64 (x9 + 1)))) bt635.1) else (some (([] : List Int), 0, false)))) else (none)) else (none)) else (none))) else (none)) else (none)) else (none)) else (none))
def pfor_read.l0 : Nat → List Int → Int → Int → Int → Int → Int → List Int → Option (List Int × Int × Bool)
 | 0, _, _, _, _, _, _, _ => none
 | k + 1, x0, x5, x6, x9, x10, x11, x13 => if x11 > 0 then (if x9 ≥ (x0.length : Int) then (pfor_read.j3 k x0 x5 x6 x9 x10 x11 x13 true) else (if 0 ≤ x9 then (if x9 < (x0.length : Int) then (if (wrap64 (rd x0 x9)) ≥ x5 then (pfor_read.j3 k x0 x5 x6 x9 x10 x11 x13 true) else (pfor_read.j3 k x0 x5 x6 x9 x10 x11 x13 (x10 == 64))) else (none)) else (none))) else (pfor_read.l1 k x6 x9 x13 (x13.length : Int) 0)
def pfor_read.j3 : Nat → List Int → Int → Int → Int → Int → Int → List Int → Bool → Option (List Int × Int × Bool)
 | 0, _, _, _, _, _, _, _, _ => none
 | k + 1, x0, x5, x6, x9, x10, x11, x13, x130 => if x130 = true then (some (([] : List Int), 0, false)) else (if 0 ≤ x9 then (if x9 < (x0.length : Int) then (if 0 ≤ (wrap64 (x9 + 1)) then (if (wrap64 (x9 + 1)) ≤ (x0.length : Int) then ((num_Take.f k (x0.drop ((wrap64 (x9 + 1)) : Int).toNat)).bind fun bt645 => (if bt645.2.2 = 0 then (if 0 ≤ (wrap64 (rd x0 x9)) then (if (wrap64 (rd x0 x9)) < (x13.length : Int) then (if 0 ≤ x10 then (pfor_read.l0 k x0 x5 x6 (wrap64 (x9 + (wrap64 (1 + bt645.2.1)))) x10 (wrap64 (x11 - 1)) (x13.set ((wrap64 (rd x0 x9)) : Int).toNat (IntKind.u64.wrap ((rd x13 (wrap64 (rd x0 x9))) + (shl .u64 bt645.1 x10))))) else (none)) else (none)) else (none)) else (some (([] : List Int), 0, false)))) else (none)) else (none)) else (none)) else (none))
def pfor_read.l1 : Nat → Int → Int → List Int → Int → Int → Option (List Int × Int × Bool)
 | 0, _, _, _, _, _ => none
 | k + 1, x6, x9, x13, x161, x162 => if x162 < x161 then (if 0 ≤ x162 then (if x162 < (x13.length : Int) then (pfor_read.l1 k x6 x9 (x13.set (x162 : Int).toNat (IntKind.u64.wrap ((rd x13 x162) + x6))) x161 (wrap64 (x162 + 1))) else (none)) else (none)) else (some (x13, x9, true))
end
def pfor_read.f (k : Nat) (l0 : List Int) : Option (List Int × Int × Bool) := if (l0.length : Int) < 1 then (pfor_read.j0 k l0 true) else (if 0 < (l0.length : Int) then (if (rd l0 0) < 1 then (pfor_read.j0 k l0 true) else (pfor_read.j0 k l0 (decide ((rd l0 0) > 32)))) else (none))
def pfor_read.T8 : Bool × List (List Nat × List Nat) := (true, [([], []), ([], []), ([0, 1], [0, 1]), ([2], [2]), ([3], [3]), ([], []), ([], []), ([6], [6]), ([5, 7], [5, 7]), ([8], [8]), ([9], [9]), ([4, 0, 1, 2, 3, 4], [4]), ([10, 11, 0, 1, 2, 3, 4, 5, 6, 7, 8, 9, 10, 11], [10])])
def pfor_read.B8 : List Nat := [0, 0, 3, 7, 15, 0, 0, 64, 224, 480, 992, 31, 4095]
theorem pfor_read.tab8 : rtab .any (opsOf Try.f84 8) = pfor_read.T8 := by kernel_rfl
theorem pfor_read.bits8 : waitsOk pfor_read.T8.2 pfor_read.B8 = true := by kernel_rfl
def pfor_read.T25 : Bool × List (List Nat × List Nat) := (true, [([], []), ([], []), ([0, 1], [0, 1]), ([2], [2]), ([], []), ([], []), ([4, 5], [4, 5]), ([3, 6], [3, 6]), ([0, 1, 0, 1, 2, 3, 4, 5, 6, 7], [0, 1]), ([8, 7, 0, 1, 2, 3, 4, 5, 6, 7], [7, 8])])
def pfor_read.B25 : List Nat := [0, 0, 3, 7, 0, 0, 48, 127, 255, 511]
theorem pfor_read.tab25 : rtab .any (opsOf Try.f84 25) = pfor_read.T25 := by kernel_rfl
theorem pfor_read.bits25 : waitsOk pfor_read.T25.2 pfor_read.B25 = true := by kernel_rfl
set_option maxHeartbeats 8000000 in
set_option maxRecDepth 100000 in
theorem pfor_read.calls (k : Nat) (A0 : Option Addr) (c0 : Nat) (l0 : List Int) (r1 : List Int) (r2 : Int) (r3 : Bool) (w : World) (hr0 : Kd.C (Kd.int .u8) w A0 l0.length l0) (hc0 : l0.length ≤ c0) (h : pfor_read.f k l0 = some (r1, r2, r3)) :
  Calls Try.prog 84 #[.slice A0 l0.length c0] w fun e w' => ∃ v0_ : Value, e = .returned (.tuple #[v0_, .int .i64 r2, .bool r3]) ∧ Kd.R (Kd.int .u64) 40 w' w.heap.size (fun _ => True) v0_ r1 ∧ Below w.heap.size w w' := by
 have HR0 := aM hr0
 have HC0 := aM hc0
 clear hr0 hc0
 have HB := aM (Below.refl w.heap.size w)
 have H : (if (l0.length : Int) < 1 then (pfor_read.j0 k l0 true) else (if 0 < (l0.length : Int) then (if (rd l0 0) < 1 then (pfor_read.j0 k l0 true) else (pfor_read.j0 k l0 (decide ((rd l0 0) > 32)))) else (none))) = some (r1, r2, r3) := h
 clear h
 have HC2 := aM H
 clear H
 go_enter Try.func84, Try.ntmps84
 go_upto_region 1 with (fail)
 go_cut [33] (fun v33 wc => ∃ (kq : Nat) (x33_1 : Bool), v33 = .bool x33_1 ∧ Aside0 (pfor_read.j0 kq l0 x33_1 = some (r1, r2, r3)) ∧ Aside0 (kq ≤ k) ∧ Aside0 (Below w.heap.size w wc))
 case first =>
  have H := HC2.out
  clear HC2
  by_cases c3 : (l0.length : Int) < 1
  ·
   rw [if_pos c3] at H
   have c3b0 : decide ((l0.length : Int) < 1) = true := decide_eq_true c3
   have c3b1 : decide (l0.length < 1) = true := decide_eq_true (by omega)
   clear c3
   (first | rw [c3b0] | (simp only [i64_w, i32_w]; rw [c3b0]) | skip)
   have H' := aM H
   clear H
   go_wp2
   go_meet
   case rel => exact ⟨_, (true), (by first | rfl | (simp; done) | (simp [*]; done)), H', ⟨by first | omega | exact Nat.le_refl _⟩, ⟨xB HB.out⟩⟩
  ·
   rw [if_neg c3] at H
   have c3b0 : decide ((l0.length : Int) < 1) = false := decide_eq_false c3
   have c3b1 : decide (l0.length < 1) = false := decide_eq_false (by omega)
   clear c3
   (first | rw [c3b0] | (simp only [i64_w, i32_w]; rw [c3b0]) | skip)
   by_cases c4 : 0 < (l0.length : Int)
   ·
    rw [if_pos c4] at H
    have c4b0 : decide (0 < (l0.length : Int)) = true := decide_eq_true c4
    have c4b1 : decide (0 < l0.length) = true := decide_eq_true (by omega)
    clear c4
    by_cases c5 : (rd l0 0) < 1
    ·
     rw [if_pos c5] at H
     have c5b0 : decide ((rd l0 0) < 1) = true := decide_eq_true c5
     clear c5
     have H' := aM H
     clear H
     have p617 : 0 ≤ (0 : Int) := (by omega)
     have q617 : 0 < (l0.length : Int) := of_decide_eq_true (by first | (with_reducible assumption) | assumption)
     obtain ⟨ad617, e617, hx617_0⟩ := Kd.at_int HR0.out 0 p617 q617
     cases e617
     have qi617 : (0 < l0.length) = True := eq_true (by omega)
     (try rw [show ((0 : Int)).toNat = 0 from rfl] at hx617_0)
     (try rw [Addr.add_zero'] at hx617_0)
     replace hx617_0 := (HB.out.cell (World.block_lt_of_cell? w _ hx617_0)).trans hx617_0
     replace p617 := eq_true p617
     replace q617 := eq_true q617
     go_wp2
     go_meet
     case rel => exact ⟨_, (true), (by first | rfl | (simp; done) | (simp [*]; done)), H', ⟨by first | omega | exact Nat.le_refl _⟩, ⟨xB HB.out⟩⟩
    ·
     rw [if_neg c5] at H
     have c5b0 : decide ((rd l0 0) < 1) = false := decide_eq_false c5
     clear c5
     have H' := aM H
     clear H
     have p617 : 0 ≤ (0 : Int) := (by omega)
     have q617 : 0 < (l0.length : Int) := of_decide_eq_true (by first | (with_reducible assumption) | assumption)
     obtain ⟨ad617, e617, hx617_0⟩ := Kd.at_int HR0.out 0 p617 q617
     cases e617
     have qi617 : (0 < l0.length) = True := eq_true (by omega)
     (try rw [show ((0 : Int)).toNat = 0 from rfl] at hx617_0)
     (try rw [Addr.add_zero'] at hx617_0)
     replace hx617_0 := (HB.out.cell (World.block_lt_of_cell? w _ hx617_0)).trans hx617_0
     replace p617 := eq_true p617
     replace q617 := eq_true q617
     have p618 : 0 ≤ (0 : Int) := (by omega)
     have q618 : 0 < (l0.length : Int) := of_decide_eq_true (by first | (with_reducible assumption) | assumption)
     obtain ⟨ad618, e618, hx618_0⟩ := Kd.at_int HR0.out 0 p618 q618
     obtain rfl : ad617 = ad618 := (by injection e618)
     have qi618 : (0 < l0.length) = True := eq_true (by omega)
     (try rw [show ((0 : Int)).toNat = 0 from rfl] at hx618_0)
     (try rw [Addr.add_zero'] at hx618_0)
     replace hx618_0 := (HB.out.cell (World.block_lt_of_cell? w _ hx618_0)).trans hx618_0
     replace p618 := eq_true p618
     replace q618 := eq_true q618
     go_wp2
     go_meet
     case rel => exact ⟨_, (decide ((rd l0 0) > 32)), (by first | rfl | (simp; done) | (simp [*]; done)), H', ⟨by first | omega | exact Nat.le_refl _⟩, ⟨xB HB.out⟩⟩
   ·
    rw [if_neg c4] at H
    exact absurd H (by simp)
 case rest =>
  clear HC2
  try clear p2
  try clear c3
  try clear c3b0
  try clear c3b1
  try clear c4
  try clear c4b0
  try clear c4b1
  try clear c5
  try clear c5b0
  try clear hx617_0
  try clear hx618_0
  try clear p617
  try clear p618
  try clear q617
  try clear q618
  obtain ⟨kq, x33_1, rfl, HA, HJ1, HB⟩ := hcut
  cases kq with
  | zero => exact absurd HA.out (by simp [pfor_read.j0])
  | succ kj1 =>
   have H := HA.out
   clear HA
   simp only [pfor_read.j0] at H
   by_cases c6 : x33_1 = true
   ·
    subst c6
    have H1 : (some (([] : List Int), 0, false)) = some (r1, r2, r3) := by rw [if_pos rfl] at H; exact H
    clear H
    have H := H1
    clear H1
    simp only [Option.some.injEq, Prod.mk.injEq] at H
    obtain ⟨rfl, rfl, rfl⟩ := H
    go_wp2
    go_ret3
    exact ⟨_, by first | rfl | (simp [errW_none, errW_some] <;> rfl) | (simp [*, errW_none, errW_some] <;> rfl), by first | exact Kd.R_nil _ _ _ _ _ | exact Kd.N_nil _ _ _ _ _ | exact Kd.V_nil _ _ _ _ _ | exact Kd.Q_nil _ _ _ _ _ | exact Kd.S_nil _ _ _ _ _, xB HB.out⟩
   ·
    replace c6 := Bool.eq_false_iff.mpr c6
    subst c6
    have H1 : (if 0 < (l0.length : Int) then (if 1 ≤ (l0.length : Int) then ((num_Take.f kj1 (l0.drop 1)).bind fun bt624 => (if bt624.2.2 = 0 then (if (l0.length : Int) < (wrap64 ((wrap64 (1 + bt624.2.1)) + 2)) then (pfor_read.j1 kj1 l0 (wrap64 (rd l0 0)) bt624.1 (wrap64 (1 + bt624.2.1)) true) else (if 0 ≤ (wrap64 (1 + bt624.2.1)) then (if (wrap64 (1 + bt624.2.1)) < (l0.length : Int) then (if (rd l0 (wrap64 (1 + bt624.2.1))) > 64 then (pfor_read.j1 kj1 l0 (wrap64 (rd l0 0)) bt624.1 (wrap64 (1 + bt624.2.1)) true) else (if 0 ≤ (wrap64 ((wrap64 (1 + bt624.2.1)) + 1)) then (if (wrap64 ((wrap64 (1 + bt624.2.1)) + 1)) < (l0.length : Int) then (pfor_read.j1 kj1 l0 (wrap64 (rd l0 0)) bt624.1 (wrap64 (1 + bt624.2.1)) (decide ((wrap64 (rd l0 (wrap64 ((wrap64 (1 + bt624.2.1)) + 1)))) > (wrap64 (rd l0 0))))) else (none)) else (none))) else (none)) else (none))) else (pfor_read.j1 kj1 l0 (wrap64 (rd l0 0)) bt624.1 (wrap64 (1 + bt624.2.1)) true))) else (none)) else (none)) = some (r1, r2, r3) := by rw [if_neg (show ¬ (false = true) by decide)] at H; exact H
    clear H
    have H := H1
    clear H1
    by_cases c7 : 0 < (l0.length : Int)
    ·
     rw [if_pos c7] at H
     have c7b0 : decide (0 < (l0.length : Int)) = true := decide_eq_true c7
     have c7b1 : decide (0 < l0.length) = true := decide_eq_true (by omega)
     clear c7
     by_cases c8 : 1 ≤ (l0.length : Int)
     ·
      rw [if_pos c8] at H
      have c8b0 := eq_true c8
      have c8b1 : decide (1 ≤ (l0.length : Int)) = true := decide_eq_true c8
      clear c8
      obtain ⟨y620, hy620⟩ : ∃ y_ : List Int, y_ = (l0.drop 1) := ⟨_, rfl⟩
      replace H : ((num_Take.f kj1 y620).bind fun bt624 => (if bt624.2.2 = 0 then (if (l0.length : Int) < (wrap64 ((wrap64 (1 + bt624.2.1)) + 2)) then (pfor_read.j1 kj1 l0 (wrap64 (rd l0 0)) bt624.1 (wrap64 (1 + bt624.2.1)) true) else (if 0 ≤ (wrap64 (1 + bt624.2.1)) then (if (wrap64 (1 + bt624.2.1)) < (l0.length : Int) then (if (rd l0 (wrap64 (1 + bt624.2.1))) > 64 then (pfor_read.j1 kj1 l0 (wrap64 (rd l0 0)) bt624.1 (wrap64 (1 + bt624.2.1)) true) else (if 0 ≤ (wrap64 ((wrap64 (1 + bt624.2.1)) + 1)) then (if (wrap64 ((wrap64 (1 + bt624.2.1)) + 1)) < (l0.length : Int) then (pfor_read.j1 kj1 l0 (wrap64 (rd l0 0)) bt624.1 (wrap64 (1 + bt624.2.1)) (decide ((wrap64 (rd l0 (wrap64 ((wrap64 (1 + bt624.2.1)) + 1)))) > (wrap64 (rd l0 0))))) else (none)) else (none))) else (none)) else (none))) else (pfor_read.j1 kj1 l0 (wrap64 (rd l0 0)) bt624.1 (wrap64 (1 + bt624.2.1)) true))) = some (r1, r2, r3) := by first | (rw [hy620]; with_reducible exact H) | (have H2_ := (Option.bind_some _ _).symm.trans H; rw [hy620]; with_reducible exact H2_) | (have H2_ := (Option.bind_some _ _).symm.trans H; with_reducible exact H2_) | with_reducible exact H | (rw [hy620]; exact H) | exact H
      have Ny620 := aM hy620
      clear hy620
      replace H := Option.bind_eq_some_iff.mp H
      obtain ⟨⟨t624, t625, t626⟩, A90, H⟩ := H
      replace H : (if t626 = 0 then (if (l0.length : Int) < (wrap64 ((wrap64 (1 + t625)) + 2)) then (pfor_read.j1 kj1 l0 (wrap64 (rd l0 0)) t624 (wrap64 (1 + t625)) true) else (if 0 ≤ (wrap64 (1 + t625)) then (if (wrap64 (1 + t625)) < (l0.length : Int) then (if (rd l0 (wrap64 (1 + t625))) > 64 then (pfor_read.j1 kj1 l0 (wrap64 (rd l0 0)) t624 (wrap64 (1 + t625)) true) else (if 0 ≤ (wrap64 ((wrap64 (1 + t625)) + 1)) then (if (wrap64 ((wrap64 (1 + t625)) + 1)) < (l0.length : Int) then (pfor_read.j1 kj1 l0 (wrap64 (rd l0 0)) t624 (wrap64 (1 + t625)) (decide ((wrap64 (rd l0 (wrap64 ((wrap64 (1 + t625)) + 1)))) > (wrap64 (rd l0 0))))) else (none)) else (none))) else (none)) else (none))) else (pfor_read.j1 kj1 l0 (wrap64 (rd l0 0)) t624 (wrap64 (1 + t625)) true)) = some (r1, r2, r3) := H
      have A9 := aM A90
      clear A90
      have HC10 := aM H
      clear H
      have p619 : 0 ≤ (0 : Int) := (by omega)
      have q619 : 0 < (l0.length : Int) := of_decide_eq_true (by first | (with_reducible assumption) | assumption)
      obtain ⟨ad619, e619, hx619_0⟩ := Kd.at_int HR0.out 0 p619 q619
      cases e619
      have qi619 : (0 < l0.length) = True := eq_true (by omega)
      (try rw [show ((0 : Int)).toNat = 0 from rfl] at hx619_0)
      (try rw [Addr.add_zero'] at hx619_0)
      replace hx619_0 := (HB.out.cell (World.block_lt_of_cell? w _ hx619_0)).trans hx619_0
      replace p619 := eq_true p619
      replace q619 := eq_true q619
      have q11 : (1 : Int) ≤ ((l0.length : Int) : Int) := of_decide_eq_true (by first | (with_reducible assumption) | assumption)
      obtain ⟨i011, hi011, _, hsz11, _⟩ := info_parts info5
      have hroom11 : l0.length ≤ c0 := HC0.out
      have hC11 : Kd.C (Kd.int .u8) _ (some ad619) l0.length l0 := HR0.out
      have hcut11 := cut_from (P := Try.prog) 22 5 .i64 Try.underlying22 hi011 1 hsz11 (some ad619) l0.length c0 1 (by omega) q11
      have hr11 := Kd.C_drop (m := (1 : Int).toNat) (c := c0) hC11 (by omega) hroom11
      obtain ⟨A11, hA11⟩ : ∃ A_z, A_z = (if c0 = (1 : Int).toNat then (some ad619) else ((some ad619) : Option Addr).map (·.add ((1 : Int).toNat * 1))) := ⟨_, rfl⟩
      obtain ⟨c11, hc11⟩ : ∃ c_z, c_z = c0 - (1 : Int).toNat := ⟨_, rfl⟩
      have hy11 : y620.length = l0.length - (1 : Int).toNat := (by rw [Ny620.out, List.length_drop] <;> omega)
      rw [show (l0).drop (1 : Int).toNat = y620 from Ny620.out.symm] at hr11
      replace hr11 : Kd.C (Kd.int .u8) _ A11 y620.length y620 := (by rw [hA11]; exact hr11)
      rw [← hy11, ← hA11, ← hc11] at hcut11
      have HR623 := aM hr11
      have HC623 := aM (show y620.length ≤ c11 from by rw [hy11, hc11]; exact Nat.sub_le_sub_right hroom11 _)
      clear hr11 hC11 hroom11 hi011 hsz11 hc11
      have KY11 := aM hy11
      have KA11 := aM hA11
      clear hy11 hA11
      replace q11 := eq_true q11
      go_upto_region 6 with (first | ((with_reducible refine gate_callee (f := 58) rfl ?_); refine goesL_ (some 41) rfl rfl Try.func58 (by kernel_rfl) rfl #[.slice A11 y620.length c11] rfl (by (try simp only [List.map_toArray, List.map_cons, List.map_nil]); first | done | rfl | (simp only [List.length_drop, List.length_take]; rfl)) ?_; (with_reducible refine (num_Take.calls kj1 _ _ y620 t624 t625 t626 _ ?side1 ?side2 A9.out).mono ?_); (case side1 => exact xC (Kd.C_below HR623.out HB.out)); (case side2 => exact HC623.out); rintro e w' ⟨rfl, ⟨nd, rfl⟩⟩; refine ⟨_, rfl, ?_⟩))
      (try simp only [xQ])
      go_cut [72] (fun v72 wc => ∃ (kq : Nat) (x72_9 : Bool), v72 = .bool x72_9 ∧ Aside0 (pfor_read.j1 kq l0 (wrap64 (rd l0 0)) t624 (wrap64 (1 + t625)) x72_9 = some (r1, r2, r3)) ∧ Aside0 (kq ≤ kj1) ∧ Aside0 (Below w.heap.size w wc))
      case first =>
       have H := HC10.out
       clear HC10
       by_cases c12 : t626 = 0
       ·
        rw [if_pos c12] at H
        have c12b0 : (t626 == 0) = true := beq_iff_eq.mpr c12
        have c12b1 : (t626 != 0) = false := bne_eq_false_iff_eq.mpr c12
        clear c12
        (first | rw [c12b0] | (simp only [i64_w, i32_w]; rw [c12b0]) | skip)
        by_cases c13 : (l0.length : Int) < (wrap64 ((wrap64 (1 + t625)) + 2))
        ·
         rw [if_pos c13] at H
         have c13b0 : decide ((l0.length : Int) < (wrap64 ((wrap64 (1 + t625)) + 2))) = true := decide_eq_true c13
         clear c13
         have H' := aM H
         clear H
         go_wp2
         go_meet
         case rel => exact ⟨_, (true), (by first | rfl | (simp; done) | (simp [*]; done)), H', ⟨by have := HJ1.out; first | omega | exact Nat.le_refl _⟩, ⟨xB HB.out⟩⟩
        ·
         rw [if_neg c13] at H
         have c13b0 : decide ((l0.length : Int) < (wrap64 ((wrap64 (1 + t625)) + 2))) = false := decide_eq_false c13
         clear c13
         obtain ⟨ji14, hji14⟩ : ∃ j_ : Int, (wrap64 (1 + t625)) = j_ := ⟨_, rfl⟩
         replace H : (if 0 ≤ (ji14) then (if (ji14) < (l0.length : Int) then (if (rd l0 (ji14)) > 64 then (pfor_read.j1 kj1 l0 (wrap64 (rd l0 0)) t624 ji14 true) else (if 0 ≤ (wrap64 ((ji14) + 1)) then (if (wrap64 ((ji14) + 1)) < (l0.length : Int) then (pfor_read.j1 kj1 l0 (wrap64 (rd l0 0)) t624 ji14 (decide ((wrap64 (rd l0 (wrap64 ((ji14) + 1)))) > (wrap64 (rd l0 0))))) else (none)) else (none))) else (none)) else (none)) = some (r1, r2, r3) := by first | (rw [hji14] at H; exact H) | (simp only [hji14] at H ⊢; exact H)
         (try rw [hji14] at c13b0)
         have hji14w : (IntKind.i64.wrap (1 + t625)) = ji14 := (i64_w _).trans hji14
         by_cases c15 : 0 ≤ (ji14)
         ·
          rw [if_pos c15] at H
          have c15b0 : decide (0 ≤ (ji14)) = true := decide_eq_true c15
          clear c15
          by_cases c16 : (ji14) < (l0.length : Int)
          ·
           rw [if_pos c16] at H
           have c16b0 : decide ((ji14) < (l0.length : Int)) = true := decide_eq_true c16
           clear c16
           by_cases c17 : (rd l0 (ji14)) > 64
           ·
            rw [if_pos c17] at H
            have c17b0 : decide (64 < (rd l0 (ji14))) = true := decide_eq_true c17
            clear c17
            have H' := aM H
            clear H
            have p627 : 0 ≤ ((ji14) : Int) := of_decide_eq_true (by first | (with_reducible assumption) | assumption)
            have q627 : (ji14) < (l0.length : Int) := of_decide_eq_true (by first | (with_reducible assumption) | assumption)
            obtain ⟨ad627, e627, hx627_0⟩ := Kd.at_int HR0.out (ji14) p627 q627
            obtain rfl : ad619 = ad627 := (by injection e627)
            replace hx627_0 := (HB.out.cell (World.block_lt_of_cell? w _ hx627_0)).trans hx627_0
            replace p627 := eq_true p627
            replace q627 := eq_true q627
            go_wp2
            (try simp only [← hji14])
            (try simp only [← hji14] at H')
            go_meet
            case rel => exact ⟨_, (true), (by first | rfl | (simp; done) | (simp [*]; done)), H', ⟨by have := HJ1.out; first | omega | exact Nat.le_refl _⟩, ⟨xB HB.out⟩⟩
           ·
            rw [if_neg c17] at H
            have c17b0 : decide (64 < (rd l0 (ji14))) = false := decide_eq_false c17
            clear c17
            obtain ⟨ji18, hji18⟩ : ∃ j_ : Int, (wrap64 ((ji14) + 1)) = j_ := ⟨_, rfl⟩
            replace H : (if 0 ≤ (ji18) then (if (ji18) < (l0.length : Int) then (pfor_read.j1 kj1 l0 (wrap64 (rd l0 0)) t624 ji14 (decide ((wrap64 (rd l0 (ji18))) > (wrap64 (rd l0 0))))) else (none)) else (none)) = some (r1, r2, r3) := by first | (rw [hji18] at H; exact H) | (simp only [hji18] at H ⊢; exact H)
            have hji18w : (IntKind.i64.wrap ((ji14) + 1)) = ji18 := (i64_w _).trans hji18
            by_cases c19 : 0 ≤ (ji18)
            ·
             rw [if_pos c19] at H
             have c19b0 : decide (0 ≤ (ji18)) = true := decide_eq_true c19
             clear c19
             by_cases c20 : (ji18) < (l0.length : Int)
             ·
              rw [if_pos c20] at H
              have c20b0 : decide ((ji18) < (l0.length : Int)) = true := decide_eq_true c20
              clear c20
              have H' := aM H
              clear H
              have p627 : 0 ≤ ((ji14) : Int) := of_decide_eq_true (by first | (with_reducible assumption) | assumption)
              have q627 : (ji14) < (l0.length : Int) := of_decide_eq_true (by first | (with_reducible assumption) | assumption)
              obtain ⟨ad627, e627, hx627_0⟩ := Kd.at_int HR0.out (ji14) p627 q627
              obtain rfl : ad619 = ad627 := (by injection e627)
              replace hx627_0 := (HB.out.cell (World.block_lt_of_cell? w _ hx627_0)).trans hx627_0
              replace p627 := eq_true p627
              replace q627 := eq_true q627
              have p628 : 0 ≤ ((ji18) : Int) := of_decide_eq_true (by first | (with_reducible assumption) | assumption)
              have q628 : (ji18) < (l0.length : Int) := of_decide_eq_true (by first | (with_reducible assumption) | assumption)
              obtain ⟨ad628, e628, hx628_0⟩ := Kd.at_int HR0.out (ji18) p628 q628
              obtain rfl : ad619 = ad628 := (by injection e628)
              replace hx628_0 := (HB.out.cell (World.block_lt_of_cell? w _ hx628_0)).trans hx628_0
              replace p628 := eq_true p628
              replace q628 := eq_true q628
              go_wp2
              (try simp only [← hji14])
              (try simp only [← hji14] at H')
              go_meet
              case rel => exact ⟨_, (decide ((wrap64 (rd l0 (ji18))) > (wrap64 (rd l0 0)))), (by first | rfl | (simp; done) | (simp only [← hji18] <;> (first | rfl | simp)) | (simp [*]; done)), H', ⟨by have := HJ1.out; first | omega | exact Nat.le_refl _⟩, ⟨xB HB.out⟩⟩
             ·
              rw [if_neg c20] at H
              exact absurd H (by simp)
            ·
             rw [if_neg c19] at H
             exact absurd H (by simp)
          ·
           rw [if_neg c16] at H
           exact absurd H (by simp)
         ·
          rw [if_neg c15] at H
          exact absurd H (by simp)
       ·
        rw [if_neg c12] at H
        have c12b0 : (t626 == 0) = false := beq_eq_false_iff_ne.mpr c12
        have c12b1 : (t626 != 0) = true := bne_iff_ne.mpr c12
        (first | rw [c12b0] | (simp only [i64_w, i32_w]; rw [c12b0]) | skip)
        have H' := aM H
        clear H
        go_wp2
        go_meet
        case rel => exact ⟨_, (true), (by first | rfl | (simp; done) | (simp [*]; done)), H', ⟨by have := HJ1.out; first | omega | exact Nat.le_refl _⟩, ⟨xB HB.out⟩⟩
      case rest =>
       clear HC10
       try clear c1
       try clear q1
       try clear c2
       try clear p2
       try clear c3
       try clear c3b0
       try clear c3b1
       try clear c4
       try clear c4b0
       try clear c4b1
       try clear c5
       try clear c5b0
       try clear c6
       try clear p6
       try clear q6
       try clear hx6
       try clear qi6
       try clear c7
       try clear c7b0
       try clear c7b1
       try clear c8
       try clear c8b0
       try clear c8b1
       try clear c11
       try clear q11
       try clear c12
       try clear c12b0
       try clear c12b1
       try clear c13
       try clear c13b0
       try clear c15
       try clear c15b0
       try clear c16
       try clear c16b0
       try clear c17
       try clear c17b0
       try clear c19
       try clear c19b0
       try clear c20
       try clear c20b0
       try clear hx617_0
       try clear hx618_0
       try clear hx619_0
       try clear hx627_0
       try clear hx628_0
       try clear p2
       try clear p617
       try clear p618
       try clear p619
       try clear p627
       try clear p628
       try clear q11
       try clear q617
       try clear q618
       try clear q619
       try clear q627
       try clear q628
       obtain ⟨kq, x72_9, rfl, HA, HJ9, HB⟩ := hcut
       cases kq with
       | zero => exact absurd HA.out (by simp [pfor_read.j1])
       | succ kj9 =>
        have H := HA.out
        clear HA
        simp only [pfor_read.j1] at H
        by_cases c21 : x72_9 = true
        ·
         subst c21
         have H1 : (some (([] : List Int), 0, false)) = some (r1, r2, r3) := by rw [if_pos rfl] at H; exact H
         clear H
         have H := H1
         clear H1
         simp only [Option.some.injEq, Prod.mk.injEq] at H
         obtain ⟨rfl, rfl, rfl⟩ := H
         go_wp2
         go_ret3
         exact ⟨_, by first | rfl | (simp [errW_none, errW_some] <;> rfl) | (simp [*, errW_none, errW_some] <;> rfl), by first | exact Kd.R_nil _ _ _ _ _ | exact Kd.N_nil _ _ _ _ _ | exact Kd.V_nil _ _ _ _ _ | exact Kd.Q_nil _ _ _ _ _ | exact Kd.S_nil _ _ _ _ _, xB HB.out⟩
        ·
         replace c21 := Bool.eq_false_iff.mpr c21
         subst c21
         have H1 : (if 0 ≤ (wrap64 (1 + t625)) then (if (wrap64 (1 + t625)) < (l0.length : Int) then (if 0 ≤ (wrap64 ((wrap64 (1 + t625)) + 1)) then (if (wrap64 ((wrap64 (1 + t625)) + 1)) < (l0.length : Int) then (if (wrap64 ((wrap64 ((wrap64 (1 + t625)) + 2)) + (wrap64 (Int.tdiv (wrap64 ((wrap64 ((wrap64 (rd l0 0)) * (wrap64 (rd l0 (wrap64 (1 + t625)))))) + 7)) 8)))) > (l0.length : Int) then (some (([] : List Int), 0, false)) else (if 0 ≤ (wrap64 ((wrap64 (1 + t625)) + 2)) then (if (wrap64 ((wrap64 (1 + t625)) + 2)) ≤ (wrap64 ((wrap64 ((wrap64 (1 + t625)) + 2)) + (wrap64 (Int.tdiv (wrap64 ((wrap64 ((wrap64 (rd l0 0)) * (wrap64 (rd l0 (wrap64 (1 + t625)))))) + 7)) 8)))) then (if (wrap64 ((wrap64 ((wrap64 (1 + t625)) + 2)) + (wrap64 (Int.tdiv (wrap64 ((wrap64 ((wrap64 (rd l0 0)) * (wrap64 (rd l0 (wrap64 (1 + t625)))))) + 7)) 8)))) ≤ (l0.length : Int) then ((bits_Unpack.f kj9 ((l0.take ((wrap64 ((wrap64 ((wrap64 (1 + t625)) + 2)) + (wrap64 (Int.tdiv (wrap64 ((wrap64 ((wrap64 (rd l0 0)) * (wrap64 (rd l0 (wrap64 (1 + t625)))))) + 7)) 8)))) : Int).toNat).drop ((wrap64 ((wrap64 (1 + t625)) + 2)) : Int).toNat) (wrap64 (rd l0 0)) (wrap64 (rd l0 (wrap64 (1 + t625))))).bind fun bt635 => (if bt635.2 = 0 then (pfor_read.l0 kj9 l0 (wrap64 (rd l0 0)) t624 (wrap64 ((wrap64 ((wrap64 (1 + t625)) + 2)) + (wrap64 (Int.tdiv (wrap64 ((wrap64 ((wrap64 (rd l0 0)) * (wrap64 (rd l0 (wrap64 (1 + t625)))))) + 7)) 8)))) (wrap64 (rd l0 (wrap64 (1 + t625)))) (wrap64 (rd l0 (wrap64 ((wrap64 (1 + t625)) + 1)))) bt635.1) else (some (([] : List Int), 0, false)))) else (none)) else (none)) else (none))) else (none)) else (none)) else (none)) else (none)) = some (r1, r2, r3) := by rw [if_neg (show ¬ (false = true) by decide)] at H; exact H
         clear H
         have H := H1
         clear H1
         obtain ⟨ji22, hji22⟩ : ∃ j_ : Int, (wrap64 (1 + t625)) = j_ := ⟨_, rfl⟩
         replace H : (if 0 ≤ (ji22) then (if (ji22) < (l0.length : Int) then (if 0 ≤ (wrap64 ((ji22) + 1)) then (if (wrap64 ((ji22) + 1)) < (l0.length : Int) then (if (wrap64 ((wrap64 ((ji22) + 2)) + (wrap64 (Int.tdiv (wrap64 ((wrap64 ((wrap64 (rd l0 0)) * (wrap64 (rd l0 (ji22))))) + 7)) 8)))) > (l0.length : Int) then (some (([] : List Int), 0, false)) else (if 0 ≤ (wrap64 ((ji22) + 2)) then (if (wrap64 ((ji22) + 2)) ≤ (wrap64 ((wrap64 ((ji22) + 2)) + (wrap64 (Int.tdiv (wrap64 ((wrap64 ((wrap64 (rd l0 0)) * (wrap64 (rd l0 (ji22))))) + 7)) 8)))) then (if (wrap64 ((wrap64 ((ji22) + 2)) + (wrap64 (Int.tdiv (wrap64 ((wrap64 ((wrap64 (rd l0 0)) * (wrap64 (rd l0 (ji22))))) + 7)) 8)))) ≤ (l0.length : Int) then ((bits_Unpack.f kj9 ((l0.take ((wrap64 ((wrap64 ((ji22) + 2)) + (wrap64 (Int.tdiv (wrap64 ((wrap64 ((wrap64 (rd l0 0)) * (wrap64 (rd l0 (ji22))))) + 7)) 8)))) : Int).toNat).drop ((wrap64 ((ji22) + 2)) : Int).toNat) (wrap64 (rd l0 0)) (wrap64 (rd l0 (ji22)))).bind fun bt635 => (if bt635.2 = 0 then (pfor_read.l0 kj9 l0 (wrap64 (rd l0 0)) t624 (wrap64 ((wrap64 ((ji22) + 2)) + (wrap64 (Int.tdiv (wrap64 ((wrap64 ((wrap64 (rd l0 0)) * (wrap64 (rd l0 (ji22))))) + 7)) 8)))) (wrap64 (rd l0 (ji22))) (wrap64 (rd l0 (wrap64 ((ji22) + 1)))) bt635.1) else (some (([] : List Int), 0, false)))) else (none)) else (none)) else (none))) else (none)) else (none)) else (none)) else (none)) = some (r1, r2, r3) := by first | (rw [hji22] at H; exact H) | (simp only [hji22] at H ⊢; exact H)
         have hji22w : (IntKind.i64.wrap (1 + t625)) = ji22 := (i64_w _).trans hji22
         by_cases c23 : 0 ≤ (ji22)
         ·
          rw [if_pos c23] at H
          have c23b0 : decide (0 ≤ (ji22)) = true := decide_eq_true c23
          clear c23
          by_cases c24 : (ji22) < (l0.length : Int)
          ·
           rw [if_pos c24] at H
           have c24b0 : decide ((ji22) < (l0.length : Int)) = true := decide_eq_true c24
           clear c24
           obtain ⟨ji25, hji25⟩ : ∃ j_ : Int, (wrap64 ((ji22) + 1)) = j_ := ⟨_, rfl⟩
           replace H : (if 0 ≤ (ji25) then (if (ji25) < (l0.length : Int) then (if (wrap64 ((wrap64 ((ji22) + 2)) + (wrap64 (Int.tdiv (wrap64 ((wrap64 ((wrap64 (rd l0 0)) * (wrap64 (rd l0 (ji22))))) + 7)) 8)))) > (l0.length : Int) then (some (([] : List Int), 0, false)) else (if 0 ≤ (wrap64 ((ji22) + 2)) then (if (wrap64 ((ji22) + 2)) ≤ (wrap64 ((wrap64 ((ji22) + 2)) + (wrap64 (Int.tdiv (wrap64 ((wrap64 ((wrap64 (rd l0 0)) * (wrap64 (rd l0 (ji22))))) + 7)) 8)))) then (if (wrap64 ((wrap64 ((ji22) + 2)) + (wrap64 (Int.tdiv (wrap64 ((wrap64 ((wrap64 (rd l0 0)) * (wrap64 (rd l0 (ji22))))) + 7)) 8)))) ≤ (l0.length : Int) then ((bits_Unpack.f kj9 ((l0.take ((wrap64 ((wrap64 ((ji22) + 2)) + (wrap64 (Int.tdiv (wrap64 ((wrap64 ((wrap64 (rd l0 0)) * (wrap64 (rd l0 (ji22))))) + 7)) 8)))) : Int).toNat).drop ((wrap64 ((ji22) + 2)) : Int).toNat) (wrap64 (rd l0 0)) (wrap64 (rd l0 (ji22)))).bind fun bt635 => (if bt635.2 = 0 then (pfor_read.l0 kj9 l0 (wrap64 (rd l0 0)) t624 (wrap64 ((wrap64 ((ji22) + 2)) + (wrap64 (Int.tdiv (wrap64 ((wrap64 ((wrap64 (rd l0 0)) * (wrap64 (rd l0 (ji22))))) + 7)) 8)))) (wrap64 (rd l0 (ji22))) (wrap64 (rd l0 (ji25))) bt635.1) else (some (([] : List Int), 0, false)))) else (none)) else (none)) else (none))) else (none)) else (none)) = some (r1, r2, r3) := by first | (rw [hji25] at H; exact H) | (simp only [hji25] at H ⊢; exact H)
           have hji25w : (IntKind.i64.wrap ((ji22) + 1)) = ji25 := (i64_w _).trans hji25
           by_cases c26 : 0 ≤ (ji25)
           ·
            rw [if_pos c26] at H
            have c26b0 : decide (0 ≤ (ji25)) = true := decide_eq_true c26
            clear c26
            by_cases c27 : (ji25) < (l0.length : Int)
            ·
             rw [if_pos c27] at H
             have c27b0 : decide ((ji25) < (l0.length : Int)) = true := decide_eq_true c27
             clear c27
             by_cases c28 : (wrap64 ((wrap64 ((ji22) + 2)) + (wrap64 (Int.tdiv (wrap64 ((wrap64 ((wrap64 (rd l0 0)) * (wrap64 (rd l0 (ji22))))) + 7)) 8)))) > (l0.length : Int)
             ·
              rw [if_pos c28] at H
              have c28b0 : decide ((l0.length : Int) < (wrap64 ((wrap64 ((ji22) + 2)) + (wrap64 (Int.tdiv (wrap64 ((wrap64 ((wrap64 (rd l0 0)) * (wrap64 (rd l0 (ji22))))) + 7)) 8))))) = true := decide_eq_true c28
              clear c28
              simp only [Option.some.injEq, Prod.mk.injEq] at H
              obtain ⟨rfl, rfl, rfl⟩ := H
              try go_wp2
              have n0_ := aM (below_drew1 HB.out)
              clear HB
              have HB := n0_
              clear n0_
              have p629 : 0 ≤ ((ji22) : Int) := of_decide_eq_true (by first | (with_reducible assumption) | assumption)
              have q629 : (ji22) < (l0.length : Int) := of_decide_eq_true (by first | (with_reducible assumption) | assumption)
              obtain ⟨ad629, e629, hx629_0⟩ := Kd.at_int HR0.out (ji22) p629 q629
              have hw629_0 := hx629_0
              obtain rfl : ad619 = ad629 := (by injection e629)
              replace hx629_0 := (HB.out.cell (World.block_lt_of_cell? w _ hx629_0)).trans hx629_0
              replace p629 := eq_true p629
              replace q629 := eq_true q629
              have p630 : 0 ≤ ((ji25) : Int) := of_decide_eq_true (by first | (with_reducible assumption) | assumption)
              have q630 : (ji25) < (l0.length : Int) := of_decide_eq_true (by first | (with_reducible assumption) | assumption)
              obtain ⟨ad630, e630, hx630_0⟩ := Kd.at_int HR0.out (ji25) p630 q630
              have hw630_0 := hx630_0
              obtain rfl : ad619 = ad630 := (by injection e630)
              replace hx630_0 := (HB.out.cell (World.block_lt_of_cell? w _ hx630_0)).trans hx630_0
              replace p630 := eq_true p630
              replace q630 := eq_true q630
              refine start_ (n := 13) (S := fun w' => w'.cell? (ad619.add ((ji22)).toNat) = some (.int .u8 (rd l0 (ji22))) ∧ w'.cell? (ad619.add ((ji25)).toNat) = some (.int .u8 (rd l0 (ji25)))) (ds := []) b21_ (by kernel_rfl) rfl rfl ⟨((HB.out.cell (World.block_lt_of_cell? w _ hw629_0)).trans hw629_0), ((HB.out.cell (World.block_lt_of_cell? w _ hw630_0)).trans hw630_0)⟩ (fun hHeld => ?_); refine with_tabW pfor_read.tab8 pfor_read.bits8 (fun HT_ HW_ => ?_)
              generalize wc.drew = w29 at HB hx629_0 hx630_0 hHeld ⊢
              refine pure_ (i := 0) (N := some 73) (v := ?_) (a' := ?_) b22_ rfl rfl (any_of HT_.out (by kernel_rfl)) (fun _ _ _ h => h) (Or.inl ⟨by rfl, ?_⟩) ?_ ?_; rotate_left; (· intro w'; go_simp; with_reducible rfl); rotate_left; (· simp only [xQ, i64_w, i32_w]; rfl)
              refine pure_ (i := 1) (N := some 74) (v := ?_) (a' := ?_) b58_ rfl rfl (any_of HT_.out (by kernel_rfl)) (fun _ _ _ h => h) (Or.inl ⟨by rfl, ?_⟩) ?_ ?_; rotate_left; (· intro w'; go_simp; with_reducible rfl); rotate_left; (· simp only [xQ, i64_w, i32_w]; rfl)
              refine pure_ (i := 2) (N := some 75) (v := ?_) (a' := ?_) b59_ rfl rfl (any_of HT_.out (by kernel_rfl)) (fun _ _ _ h => h) (Or.inl ⟨by rfl, ?_⟩) ?_ ?_; rotate_left; (· intro w'; go_simp; with_reducible rfl); rotate_left; (· simp only [xQ, i64_w, i32_w]; rfl)
              refine pure_ (i := 5) (N := some 78) (v := ?_) (a' := ?_) b60_ rfl rfl (any_of HT_.out (by kernel_rfl)) (fun _ _ _ h => h) (Or.inl ⟨by rfl, ?_⟩) ?_ ?_; rotate_left; (· intro w'; go_simp; with_reducible rfl); rotate_left; (· simp only [xQ, i64_w, i32_w]; rfl)
              refine pure_ (i := 6) (N := some 79) (v := ?_) (a' := ?_) b61_ rfl rfl (any_of HT_.out (by kernel_rfl)) (fun _ _ _ h => h) (Or.inl ⟨by rfl, ?_⟩) ?_ ?_; rotate_left; (· intro w'; go_simp; with_reducible rfl); rotate_left; (· simp only [xQ, i64_w, i32_w]; rfl)
              refine pure_ (i := 7) (N := some 80) (v := ?_) (a' := ?_) b62_ rfl rfl (any_of HT_.out (by kernel_rfl)) (fun _ _ _ h => h) (Or.inl ⟨by rfl, ?_⟩) ?_ ?_; rotate_left; (· intro w'; go_simp; with_reducible rfl); rotate_left; (· simp only [xQ, i64_w, i32_w]; rfl)
              refine pure_ (i := 8) (N := some 81) (v := ?_) (a' := ?_) b63_ rfl rfl (any_of HT_.out (by kernel_rfl)) (fun _ _ _ h => h) (Or.inl ⟨by rfl, ?_⟩) ?_ ?_; rotate_left; (· intro w'; go_simp; with_reducible rfl); rotate_left; (· simp only [xQ, i64_w, i32_w]; rfl)
              refine take_ (i := 3) (N := some 76) (v := ?_) (a' := ?_) b29_ rfl rfl (take_ofW HT_.out HW_.out (by kernel_rfl)) (fun _ _ _ h => h) (Or.inl ⟨by rfl, ?_⟩) hHeld ?_ ?_; rotate_left; (· rintro w' ⟨s0, s1⟩; go_simp; with_reducible rfl); rotate_left; (· simp only [xQ, i64_w, i32_w]; rfl)
              refine pure_ (i := 4) (N := some 77) (v := ?_) (a' := ?_) b30_ rfl rfl (any_of HT_.out (by kernel_rfl)) (fun _ _ _ h => h) (Or.inl ⟨by rfl, ?_⟩) ?_ ?_; rotate_left; (· intro w'; go_simp; with_reducible rfl); rotate_left; (· simp only [xQ, i64_w, i32_w]; rfl)
              refine pure_ (i := 11) (N := some 10) (v := ?_) (a' := ?_) b68_ rfl rfl (any_of HT_.out (by kernel_rfl)) (fun _ _ _ h => h) (Or.inl ⟨by rfl, ?_⟩) ?_ ?_; rotate_left; (· intro w'; go_simp; with_reducible rfl); rotate_left; (· simp only [xQ, i64_w, i32_w]; rfl)
              refine take_ (i := 9) (N := some 82) (v := ?_) (a' := ?_) b69_ rfl rfl (take_ofW HT_.out HW_.out (by kernel_rfl)) (fun _ _ _ h => h) (Or.inl ⟨by rfl, ?_⟩) hHeld ?_ ?_; rotate_left; (· rintro w' ⟨s0, s1⟩; go_simp; with_reducible rfl); rotate_left; (· simp only [xQ, i64_w, i32_w]; rfl)
              refine pure_ (i := 10) (N := some 83) (v := ?_) (a' := ?_) b33_ rfl rfl (any_of HT_.out (by kernel_rfl)) (fun _ _ _ h => h) (Or.inl ⟨by rfl, ?_⟩) ?_ ?_; rotate_left; (· intro w'; go_simp; with_reducible rfl); rotate_left; (· simp only [xQ, i64_w, i32_w]; rfl)
              refine pure_ (i := 12) (N := some 11) (v := ?_) (a' := ?_) b34_ rfl rfl (any_of HT_.out (by kernel_rfl)) (fun _ _ _ h => h) (Or.inl ⟨by rfl, ?_⟩) ?_ ?_; rotate_left; (· intro w'; go_simp; with_reducible rfl); rotate_left; (· simp only [xQ, i64_w, i32_w]; rfl)
              refine done_ (done_of HT_.out (by kernel_rfl)) ?_
              try go_wp2
              go_ret3
              exact ⟨_, by first | rfl | (simp [errW_none, errW_some] <;> rfl) | (simp only [← hji22, ← hji25]; first | rfl | (simp [errW_none, errW_some] <;> rfl)) | (simp [*, errW_none, errW_some] <;> rfl), by first | exact Kd.R_nil _ _ _ _ _ | exact Kd.N_nil _ _ _ _ _ | exact Kd.V_nil _ _ _ _ _ | exact Kd.Q_nil _ _ _ _ _ | exact Kd.S_nil _ _ _ _ _, xB HB.out⟩
             ·
              rw [if_neg c28] at H
              have c28b0 : decide ((l0.length : Int) < (wrap64 ((wrap64 ((ji22) + 2)) + (wrap64 (Int.tdiv (wrap64 ((wrap64 ((wrap64 (rd l0 0)) * (wrap64 (rd l0 (ji22))))) + 7)) 8))))) = false := decide_eq_false c28
              clear c28
              obtain ⟨ji30, hji30⟩ : ∃ j_ : Int, (wrap64 ((ji22) + 2)) = j_ := ⟨_, rfl⟩
              replace H : (if 0 ≤ (ji30) then (if (ji30) ≤ (wrap64 ((ji30) + (wrap64 (Int.tdiv (wrap64 ((wrap64 ((wrap64 (rd l0 0)) * (wrap64 (rd l0 (ji22))))) + 7)) 8)))) then (if (wrap64 ((ji30) + (wrap64 (Int.tdiv (wrap64 ((wrap64 ((wrap64 (rd l0 0)) * (wrap64 (rd l0 (ji22))))) + 7)) 8)))) ≤ (l0.length : Int) then ((bits_Unpack.f kj9 ((l0.take ((wrap64 ((ji30) + (wrap64 (Int.tdiv (wrap64 ((wrap64 ((wrap64 (rd l0 0)) * (wrap64 (rd l0 (ji22))))) + 7)) 8)))) : Int).toNat).drop ((ji30) : Int).toNat) (wrap64 (rd l0 0)) (wrap64 (rd l0 (ji22)))).bind fun bt635 => (if bt635.2 = 0 then (pfor_read.l0 kj9 l0 (wrap64 (rd l0 0)) t624 (wrap64 ((ji30) + (wrap64 (Int.tdiv (wrap64 ((wrap64 ((wrap64 (rd l0 0)) * (wrap64 (rd l0 (ji22))))) + 7)) 8)))) (wrap64 (rd l0 (ji22))) (wrap64 (rd l0 (ji25))) bt635.1) else (some (([] : List Int), 0, false)))) else (none)) else (none)) else (none)) = some (r1, r2, r3) := by first | (rw [hji30] at H; exact H) | (simp only [hji30] at H ⊢; exact H)
              (try rw [hji30] at c28b0)
              have hji30w : (IntKind.i64.wrap ((ji22) + 2)) = ji30 := (i64_w _).trans hji30
              by_cases c31 : 0 ≤ (ji30)
              ·
               rw [if_pos c31] at H
               have c31b0 := eq_true c31
               have c31b1 : decide (0 ≤ (ji30)) = true := decide_eq_true c31
               clear c31
               by_cases c32 : (ji30) ≤ (wrap64 ((ji30) + (wrap64 (Int.tdiv (wrap64 ((wrap64 ((wrap64 (rd l0 0)) * (wrap64 (rd l0 (ji22))))) + 7)) 8))))
               ·
                rw [if_pos c32] at H
                have c32b0 := eq_true c32
                have c32b1 : decide ((ji30) ≤ (wrap64 ((ji30) + (wrap64 (Int.tdiv (wrap64 ((wrap64 ((wrap64 (rd l0 0)) * (wrap64 (rd l0 (ji22))))) + 7)) 8))))) = true := decide_eq_true c32
                by_cases c33 : (wrap64 ((ji30) + (wrap64 (Int.tdiv (wrap64 ((wrap64 ((wrap64 (rd l0 0)) * (wrap64 (rd l0 (ji22))))) + 7)) 8)))) ≤ (l0.length : Int)
                ·
                 rw [if_pos c33] at H
                 have c33b0 := eq_true c33
                 have c33b1 : decide ((wrap64 ((ji30) + (wrap64 (Int.tdiv (wrap64 ((wrap64 ((wrap64 (rd l0 0)) * (wrap64 (rd l0 (ji22))))) + 7)) 8)))) ≤ (l0.length : Int)) = true := decide_eq_true c33
                 obtain ⟨y631, hy631⟩ : ∃ y_ : List Int, y_ = ((l0.take ((wrap64 ((ji30) + (wrap64 (Int.tdiv (wrap64 ((wrap64 ((wrap64 (rd l0 0)) * (wrap64 (rd l0 (ji22))))) + 7)) 8)))) : Int).toNat).drop ((ji30) : Int).toNat) := ⟨_, rfl⟩
                 replace H : ((bits_Unpack.f kj9 y631 (wrap64 (rd l0 0)) (wrap64 (rd l0 (ji22)))).bind fun bt635 => (if bt635.2 = 0 then (pfor_read.l0 kj9 l0 (wrap64 (rd l0 0)) t624 (wrap64 ((ji30) + (wrap64 (Int.tdiv (wrap64 ((wrap64 ((wrap64 (rd l0 0)) * (wrap64 (rd l0 (ji22))))) + 7)) 8)))) (wrap64 (rd l0 (ji22))) (wrap64 (rd l0 (ji25))) bt635.1) else (some (([] : List Int), 0, false)))) = some (r1, r2, r3) := by first | (rw [hy631]; with_reducible exact H) | (have H2_ := (Option.bind_some _ _).symm.trans H; rw [hy631]; with_reducible exact H2_) | (have H2_ := (Option.bind_some _ _).symm.trans H; with_reducible exact H2_) | with_reducible exact H | (rw [hy631]; exact H) | exact H
                 have Ny631 := aM hy631
                 clear hy631
                 replace H := Option.bind_eq_some_iff.mp H
                 obtain ⟨⟨t635, t636⟩, A340, H⟩ := H
                 replace H : (if t636 = 0 then (pfor_read.l0 kj9 l0 (wrap64 (rd l0 0)) t624 (wrap64 ((ji30) + (wrap64 (Int.tdiv (wrap64 ((wrap64 ((wrap64 (rd l0 0)) * (wrap64 (rd l0 (ji22))))) + 7)) 8)))) (wrap64 (rd l0 (ji22))) (wrap64 (rd l0 (ji25))) t635) else (some (([] : List Int), 0, false))) = some (r1, r2, r3) := H
                 have A34 := aM A340
                 clear A340
                 by_cases c35 : t636 = 0
                 ·
                  rw [if_pos c35] at H
                  have c35b0 : (t636 == 0) = true := beq_iff_eq.mpr c35
                  have c35b1 : (t636 != 0) = false := bne_eq_false_iff_eq.mpr c35
                  clear c35
                  have H' := aM H
                  clear H
                  try go_wp2
                  have n0_ := aM (below_drew1 HB.out)
                  clear HB
                  have HB := n0_
                  clear n0_
                  have p629 : 0 ≤ ((ji22) : Int) := of_decide_eq_true (by first | (with_reducible assumption) | assumption)
                  have q629 : (ji22) < (l0.length : Int) := of_decide_eq_true (by first | (with_reducible assumption) | assumption)
                  obtain ⟨ad629, e629, hx629_0⟩ := Kd.at_int HR0.out (ji22) p629 q629
                  have hw629_0 := hx629_0
                  obtain rfl : ad619 = ad629 := (by injection e629)
                  replace hx629_0 := (HB.out.cell (World.block_lt_of_cell? w _ hx629_0)).trans hx629_0
                  replace p629 := eq_true p629
                  replace q629 := eq_true q629
                  have p630 : 0 ≤ ((ji25) : Int) := of_decide_eq_true (by first | (with_reducible assumption) | assumption)
                  have q630 : (ji25) < (l0.length : Int) := of_decide_eq_true (by first | (with_reducible assumption) | assumption)
                  obtain ⟨ad630, e630, hx630_0⟩ := Kd.at_int HR0.out (ji25) p630 q630
                  have hw630_0 := hx630_0
                  obtain rfl : ad619 = ad630 := (by injection e630)
                  replace hx630_0 := (HB.out.cell (World.block_lt_of_cell? w _ hx630_0)).trans hx630_0
                  replace p630 := eq_true p630
                  replace q630 := eq_true q630
                  refine start_ (n := 13) (S := fun w' => w'.cell? (ad619.add ((ji22)).toNat) = some (.int .u8 (rd l0 (ji22))) ∧ w'.cell? (ad619.add ((ji25)).toNat) = some (.int .u8 (rd l0 (ji25)))) (ds := []) b21_ (by kernel_rfl) rfl rfl ⟨((HB.out.cell (World.block_lt_of_cell? w _ hw629_0)).trans hw629_0), ((HB.out.cell (World.block_lt_of_cell? w _ hw630_0)).trans hw630_0)⟩ (fun hHeld => ?_); refine with_tabW pfor_read.tab8 pfor_read.bits8 (fun HT_ HW_ => ?_)
                  generalize wc.drew = w36 at HB hx629_0 hx630_0 hHeld ⊢
                  refine pure_ (i := 0) (N := some 73) (v := ?_) (a' := ?_) b22_ rfl rfl (any_of HT_.out (by kernel_rfl)) (fun _ _ _ h => h) (Or.inl ⟨by rfl, ?_⟩) ?_ ?_; rotate_left; (· intro w'; go_simp; with_reducible rfl); rotate_left; (· simp only [xQ, i64_w, i32_w]; rfl)
                  refine pure_ (i := 1) (N := some 74) (v := ?_) (a' := ?_) b58_ rfl rfl (any_of HT_.out (by kernel_rfl)) (fun _ _ _ h => h) (Or.inl ⟨by rfl, ?_⟩) ?_ ?_; rotate_left; (· intro w'; go_simp; with_reducible rfl); rotate_left; (· simp only [xQ, i64_w, i32_w]; rfl)
                  refine pure_ (i := 2) (N := some 75) (v := ?_) (a' := ?_) b59_ rfl rfl (any_of HT_.out (by kernel_rfl)) (fun _ _ _ h => h) (Or.inl ⟨by rfl, ?_⟩) ?_ ?_; rotate_left; (· intro w'; go_simp; with_reducible rfl); rotate_left; (· simp only [xQ, i64_w, i32_w]; rfl)
                  refine pure_ (i := 5) (N := some 78) (v := ?_) (a' := ?_) b60_ rfl rfl (any_of HT_.out (by kernel_rfl)) (fun _ _ _ h => h) (Or.inl ⟨by rfl, ?_⟩) ?_ ?_; rotate_left; (· intro w'; go_simp; with_reducible rfl); rotate_left; (· simp only [xQ, i64_w, i32_w]; rfl)
                  refine pure_ (i := 6) (N := some 79) (v := ?_) (a' := ?_) b61_ rfl rfl (any_of HT_.out (by kernel_rfl)) (fun _ _ _ h => h) (Or.inl ⟨by rfl, ?_⟩) ?_ ?_; rotate_left; (· intro w'; go_simp; with_reducible rfl); rotate_left; (· simp only [xQ, i64_w, i32_w]; rfl)
                  refine pure_ (i := 7) (N := some 80) (v := ?_) (a' := ?_) b62_ rfl rfl (any_of HT_.out (by kernel_rfl)) (fun _ _ _ h => h) (Or.inl ⟨by rfl, ?_⟩) ?_ ?_; rotate_left; (· intro w'; go_simp; with_reducible rfl); rotate_left; (· simp only [xQ, i64_w, i32_w]; rfl)
                  refine pure_ (i := 8) (N := some 81) (v := ?_) (a' := ?_) b63_ rfl rfl (any_of HT_.out (by kernel_rfl)) (fun _ _ _ h => h) (Or.inl ⟨by rfl, ?_⟩) ?_ ?_; rotate_left; (· intro w'; go_simp; with_reducible rfl); rotate_left; (· simp only [xQ, i64_w, i32_w]; rfl)
                  refine take_ (i := 3) (N := some 76) (v := ?_) (a' := ?_) b29_ rfl rfl (take_ofW HT_.out HW_.out (by kernel_rfl)) (fun _ _ _ h => h) (Or.inl ⟨by rfl, ?_⟩) hHeld ?_ ?_; rotate_left; (· rintro w' ⟨s0, s1⟩; go_simp; with_reducible rfl); rotate_left; (· simp only [xQ, i64_w, i32_w]; rfl)
                  refine pure_ (i := 4) (N := some 77) (v := ?_) (a' := ?_) b30_ rfl rfl (any_of HT_.out (by kernel_rfl)) (fun _ _ _ h => h) (Or.inl ⟨by rfl, ?_⟩) ?_ ?_; rotate_left; (· intro w'; go_simp; with_reducible rfl); rotate_left; (· simp only [xQ, i64_w, i32_w]; rfl)
                  refine pure_ (i := 11) (N := some 10) (v := ?_) (a' := ?_) b68_ rfl rfl (any_of HT_.out (by kernel_rfl)) (fun _ _ _ h => h) (Or.inl ⟨by rfl, ?_⟩) ?_ ?_; rotate_left; (· intro w'; go_simp; with_reducible rfl); rotate_left; (· simp only [xQ, i64_w, i32_w]; rfl)
                  refine take_ (i := 9) (N := some 82) (v := ?_) (a' := ?_) b69_ rfl rfl (take_ofW HT_.out HW_.out (by kernel_rfl)) (fun _ _ _ h => h) (Or.inl ⟨by rfl, ?_⟩) hHeld ?_ ?_; rotate_left; (· rintro w' ⟨s0, s1⟩; go_simp; with_reducible rfl); rotate_left; (· simp only [xQ, i64_w, i32_w]; rfl)
                  refine pure_ (i := 10) (N := some 83) (v := ?_) (a' := ?_) b33_ rfl rfl (any_of HT_.out (by kernel_rfl)) (fun _ _ _ h => h) (Or.inl ⟨by rfl, ?_⟩) ?_ ?_; rotate_left; (· intro w'; go_simp; with_reducible rfl); rotate_left; (· simp only [xQ, i64_w, i32_w]; rfl)
                  refine pure_ (i := 12) (N := some 11) (v := ?_) (a' := ?_) b34_ rfl rfl (any_of HT_.out (by kernel_rfl)) (fun _ _ _ h => h) (Or.inl ⟨by rfl, ?_⟩) ?_ ?_; rotate_left; (· intro w'; go_simp; with_reducible rfl); rotate_left; (· simp only [xQ, i64_w, i32_w]; rfl)
                  refine done_ (done_of HT_.out (by kernel_rfl)) ?_
                  have q37 : ((wrap64 ((ji30) + (wrap64 (Int.tdiv (wrap64 ((wrap64 ((wrap64 (rd l0 0)) * (wrap64 (rd l0 (ji22))))) + 7)) 8)))) : Int) ≤ ((l0.length : Int) : Int) := of_decide_eq_true (by first | (with_reducible assumption) | assumption)
                  obtain ⟨i037, hi037, _, hsz37, _⟩ := info_parts info5
                  have hroom37 : l0.length ≤ c0 := HC0.out
                  have hC37 : Kd.C (Kd.int .u8) _ (some ad619) l0.length l0 := HR0.out
                  have ql37 : ((ji30) : Int) ≤ ((wrap64 ((ji30) + (wrap64 (Int.tdiv (wrap64 ((wrap64 ((wrap64 (rd l0 0)) * (wrap64 (rd l0 (ji22))))) + 7)) 8)))) : Int) := of_decide_eq_true (by first | (with_reducible assumption) | assumption)
                  have q037 : (0 : Int) ≤ ((ji30) : Int) := of_decide_eq_true (by first | (with_reducible assumption) | assumption)
                  have hcut37 := cut_mid (P := Try.prog) 22 5 .i64 .i64 Try.underlying22 hi037 1 hsz37 (some ad619) l0.length c0 (ji30) (wrap64 ((ji30) + (wrap64 (Int.tdiv (wrap64 ((wrap64 ((wrap64 (rd l0 0)) * (wrap64 (rd l0 (ji22))))) + 7)) 8)))) q037 ql37 q37 hroom37
                  have hr37 := Kd.C_mid (lo := ((ji30) : Int).toNat) (hi := ((wrap64 ((ji30) + (wrap64 (Int.tdiv (wrap64 ((wrap64 ((wrap64 (rd l0 0)) * (wrap64 (rd l0 (ji22))))) + 7)) 8)))) : Int).toNat) (c := c0) hC37 (by omega) (by omega) hroom37
                  obtain ⟨A37, hA37⟩ : ∃ A_z, A_z = (if c0 = ((ji30) : Int).toNat then (some ad619) else ((some ad619) : Option Addr).map (·.add (((ji30) : Int).toNat * 1))) := ⟨_, rfl⟩
                  obtain ⟨c37, hc37⟩ : ∃ c_z, c_z = c0 - ((ji30) : Int).toNat := ⟨_, rfl⟩
                  have hy37 : y631.length = ((wrap64 ((ji30) + (wrap64 (Int.tdiv (wrap64 ((wrap64 ((wrap64 (rd l0 0)) * (wrap64 (rd l0 (ji22))))) + 7)) 8)))) : Int).toNat - ((ji30) : Int).toNat := (by rw [Ny631.out, List.length_drop, List.length_take] <;> omega)
                  rw [show ((l0).take ((wrap64 ((ji30) + (wrap64 (Int.tdiv (wrap64 ((wrap64 ((wrap64 (rd l0 0)) * (wrap64 (rd l0 (ji22))))) + 7)) 8)))) : Int).toNat).drop ((ji30) : Int).toNat = y631 from Ny631.out.symm] at hr37
                  replace hr37 : Kd.C (Kd.int .u8) _ A37 y631.length y631 := (by rw [hA37]; exact hr37)
                  rw [← hy37, ← hA37, ← hc37] at hcut37
                  have HR634 := aM hr37
                  have HC634 := aM (show y631.length ≤ c37 from by rw [hy37, hc37]; exact Nat.sub_le_sub_right (Nat.le_trans (by omega) hroom37) _)
                  clear hr37 hC37 hroom37 hi037 hsz37 hc37
                  have KY37 := aM hy37
                  have KA37 := aM hA37
                  clear hy37 hA37
                  replace q37 := eq_true q37
                  try go_wp2_with (first | ((with_reducible refine gate_callee (f := 108) rfl ?_); refine goesL_ (some 104) rfl rfl Try.func108 (by kernel_rfl) rfl #[.slice A37 y631.length c37, .int .i64 (wrap64 (rd l0 0)), .int .i64 (wrap64 (rd l0 (ji22)))] rfl (by (try simp only [List.map_toArray, List.map_cons, List.map_nil]); first | done | (simp only [hji22]; rfl) | rfl | (simp only [List.length_drop, List.length_take]; rfl)) ?_; (with_reducible refine (bits_Unpack.calls kj9 _ _ y631 (wrap64 (rd l0 0)) (wrap64 (rd l0 (ji22))) t635 t636 _ ?side1 ?side2 A34.out).mono ?_); (case side1 => exact xC (Kd.C_below HR634.out HB.out)); (case side2 => exact HC634.out); rintro e w38 ⟨v637, rfl, ho0, hb⟩; refine ⟨_, rfl, ?_⟩; have n0_ := aM (Kd.R_lower ho0 (below_size (xB HB.out))); have n1_ := aM (below_step (xB HB.out) hb); clear HB; have HO638 := n0_; have HB := n1_; clear n0_ n1_; (try clear hb); (try clear hb2); (try clear hk); (try clear hi); (try clear ho0)))
                  go_loopg [9, 11] kj9 (fun kq v9 v11 w' => ∃ (x9_3 : Int) (x11_3 : Int) (x13_3 : List Int), v9 = .int .i64 x9_3 ∧ v11 = .int .i64 x11_3 ∧ Aside0 (pfor_read.l0 kq l0 (wrap64 (rd l0 0)) t624 x9_3 (wrap64 (rd l0 (ji22))) x11_3 x13_3 = some (r1, r2, r3)) ∧ Aside0 (kq ≤ kj9) ∧ Aside0 (Kd.R (Kd.int .u64) 40 w' w.heap.size (fun _ => True) v637 x13_3) ∧ Aside0 (Below w.heap.size w w'))
                  case atStart => exact ⟨(wrap64 ((ji30) + (wrap64 (Int.tdiv (wrap64 ((wrap64 ((wrap64 (rd l0 0)) * (wrap64 (rd l0 (ji22))))) + 7)) 8)))), (wrap64 (rd l0 (ji25))), (t635), (by first | rfl | (simp; done) | (simp only [← hji22, ← hji30] <;> (first | rfl | simp)) | (simp [*]; done)), (by first | rfl | (simp; done) | (simp only [← hji25] <;> (first | rfl | simp)) | (simp [*]; done)), H', ⟨Nat.le_refl _⟩, ⟨by (with_reducible repeat (first | apply Kd.R_alloc | apply Kd.R_drewN | apply Kd.R_drew)); exact HO638.out⟩, ⟨xB HB.out⟩⟩
                  case round =>
                   clear H'
                   try clear c1
                   try clear q1
                   try clear c2
                   try clear p2
                   try clear c3
                   try clear c3b0
                   try clear c3b1
                   try clear q3
                   try clear c4
                   try clear c4b0
                   try clear c4b1
                   try clear c5
                   try clear c5b0
                   try clear c6
                   try clear p6
                   try clear q6
                   try clear hx6
                   try clear qi6
                   try clear c7
                   try clear c7b0
                   try clear c7b1
                   try clear c8
                   try clear c8b0
                   try clear c8b1
                   try clear c10
                   try clear c11
                   try clear q11
                   try clear c12
                   try clear c12b0
                   try clear c12b1
                   try clear c13
                   try clear c13b0
                   try clear c15
                   try clear c15b0
                   try clear c16
                   try clear c16b0
                   try clear c17
                   try clear c17b0
                   try clear c19
                   try clear c19b0
                   try clear c20
                   try clear c20b0
                   try clear c21
                   try clear c23
                   try clear c23b0
                   try clear c24
                   try clear c24b0
                   try clear c26
                   try clear c26b0
                   try clear c27
                   try clear c27b0
                   try clear c28
                   try clear c28b0
                   try clear c31
                   try clear c31b0
                   try clear c31b1
                   try clear c32
                   try clear c32b0
                   try clear c32b1
                   try clear c33
                   try clear c33b0
                   try clear c33b1
                   try clear c35
                   try clear c35b0
                   try clear c35b1
                   try clear c37
                   try clear q37
                   try clear hx617_0
                   try clear hx618_0
                   try clear hx619_0
                   try clear hx627_0
                   try clear hx628_0
                   try clear hx629_0
                   try clear hx630_0
                   try clear p2
                   try clear p6
                   try clear p617
                   try clear p618
                   try clear p619
                   try clear p627
                   try clear p628
                   try clear p629
                   try clear p630
                   try clear q037
                   try clear q1
                   try clear q11
                   try clear q37
                   try clear q6
                   try clear q617
                   try clear q618
                   try clear q619
                   try clear q627
                   try clear q628
                   try clear q629
                   try clear q630
                   obtain ⟨x9_3, x11_3, x13_3, rfl, rfl, HA, HK3, HO_13, HB⟩ := hrel
                   cases gk with
                   | zero => exact absurd HA.out (by simp [pfor_read.l0])
                   | succ k3 =>
                    have H := HA.out
                    clear HA
                    simp only [pfor_read.l0] at H
                    by_cases c39 : x11_3 > 0
                    ·
                     rw [if_pos c39] at H
                     have c39b0 : decide (0 < x11_3) = true := decide_eq_true c39
                     clear c39
                     have HC40 := aM H
                     clear H
                     go_upto_region 19 with (fail)
                     go_cut [130] (fun v130 wc => ∃ (kq : Nat) (x130_39 : Bool), v130 = .bool x130_39 ∧ Aside0 (pfor_read.j3 kq l0 (wrap64 (rd l0 0)) t624 x9_3 (wrap64 (rd l0 (ji22))) x11_3 x13_3 x130_39 = some (r1, r2, r3)) ∧ Aside0 (kq ≤ k3) ∧ Aside0 (Kd.R (Kd.int .u64) 40 wc w.heap.size (fun _ => True) v637 x13_3) ∧ Aside0 (Below w.heap.size w wc))
                     case first =>
                      have H := HC40.out
                      clear HC40
                      by_cases c41 : x9_3 ≥ (l0.length : Int)
                      ·
                       rw [if_pos c41] at H
                       have c41b0 : decide ((l0.length : Int) ≤ x9_3) = true := decide_eq_true c41
                       clear c41
                       (first | rw [c41b0] | (simp only [i64_w, i32_w]; rw [c41b0]) | skip)
                       have H' := aM H
                       clear H
                       go_wp2
                       go_meet
                       case rel => exact ⟨_, (true), (by first | rfl | (simp; done) | (simp [*]; done)), H', ⟨by have := HJ1.out; have := HJ9.out; have := HK3.out; first | omega | exact Nat.le_refl _⟩, ⟨by (with_reducible repeat (first | apply Kd.R_alloc | apply Kd.R_drewN | apply Kd.R_drew)); exact HO_13.out⟩, ⟨xB HB.out⟩⟩
                      ·
                       rw [if_neg c41] at H
                       have c41b0 : decide ((l0.length : Int) ≤ x9_3) = false := decide_eq_false c41
                       clear c41
                       (first | rw [c41b0] | (simp only [i64_w, i32_w]; rw [c41b0]) | skip)
                       by_cases c42 : 0 ≤ x9_3
                       ·
                        rw [if_pos c42] at H
                        have c42b0 : decide (0 ≤ x9_3) = true := decide_eq_true c42
                        clear c42
                        by_cases c43 : x9_3 < (l0.length : Int)
                        ·
                         rw [if_pos c43] at H
                         have c43b0 : decide (x9_3 < (l0.length : Int)) = true := decide_eq_true c43
                         clear c43
                         by_cases c44 : (wrap64 (rd l0 x9_3)) ≥ (wrap64 (rd l0 0))
                         ·
                          rw [if_pos c44] at H
                          have c44b0 : decide ((wrap64 (rd l0 0)) ≤ (wrap64 (rd l0 x9_3))) = true := decide_eq_true c44
                          clear c44
                          have H' := aM H
                          clear H
                          have p639 : 0 ≤ (x9_3 : Int) := of_decide_eq_true (by first | (with_reducible assumption) | assumption)
                          have q639 : x9_3 < (l0.length : Int) := of_decide_eq_true (by first | (with_reducible assumption) | assumption)
                          obtain ⟨ad639, e639, hx639_0⟩ := Kd.at_int HR0.out x9_3 p639 q639
                          obtain rfl : ad619 = ad639 := (by injection e639)
                          replace hx639_0 := (HB.out.cell (World.block_lt_of_cell? w _ hx639_0)).trans hx639_0
                          replace p639 := eq_true p639
                          replace q639 := eq_true q639
                          go_wp2
                          go_meet
                          case rel => exact ⟨_, (true), (by first | rfl | (simp; done) | (simp [*]; done)), H', ⟨by have := HJ1.out; have := HJ9.out; have := HK3.out; first | omega | exact Nat.le_refl _⟩, ⟨by (with_reducible repeat (first | apply Kd.R_alloc | apply Kd.R_drewN | apply Kd.R_drew)); exact HO_13.out⟩, ⟨xB HB.out⟩⟩
                         ·
                          rw [if_neg c44] at H
                          have c44b0 : decide ((wrap64 (rd l0 0)) ≤ (wrap64 (rd l0 x9_3))) = false := decide_eq_false c44
                          clear c44
                          have H' := aM H
                          clear H
                          have p639 : 0 ≤ (x9_3 : Int) := of_decide_eq_true (by first | (with_reducible assumption) | assumption)
                          have q639 : x9_3 < (l0.length : Int) := of_decide_eq_true (by first | (with_reducible assumption) | assumption)
                          obtain ⟨ad639, e639, hx639_0⟩ := Kd.at_int HR0.out x9_3 p639 q639
                          obtain rfl : ad619 = ad639 := (by injection e639)
                          replace hx639_0 := (HB.out.cell (World.block_lt_of_cell? w _ hx639_0)).trans hx639_0
                          replace p639 := eq_true p639
                          replace q639 := eq_true q639
                          go_wp2
                          go_meet
                          case rel => exact ⟨_, (((wrap64 (rd l0 (ji22))) == 64)), (by first | rfl | (simp; done) | (simp only [← hji22] <;> (first | rfl | simp)) | (simp [*]; done)), H', ⟨by have := HJ1.out; have := HJ9.out; have := HK3.out; first | omega | exact Nat.le_refl _⟩, ⟨by (with_reducible repeat (first | apply Kd.R_alloc | apply Kd.R_drewN | apply Kd.R_drew)); exact HO_13.out⟩, ⟨xB HB.out⟩⟩
                        ·
                         rw [if_neg c43] at H
                         exact absurd H (by simp)
                       ·
                        rw [if_neg c42] at H
                        exact absurd H (by simp)
                     case rest =>
                      clear HC40
                      try clear c1
                      try clear q1
                      try clear c2
                      try clear p2
                      try clear c3
                      try clear c3b0
                      try clear c3b1
                      try clear q3
                      try clear c4
                      try clear c4b0
                      try clear c4b1
                      try clear c5
                      try clear c5b0
                      try clear c6
                      try clear p6
                      try clear q6
                      try clear hx6
                      try clear qi6
                      try clear c7
                      try clear c7b0
                      try clear c7b1
                      try clear c8
                      try clear c8b0
                      try clear c8b1
                      try clear c10
                      try clear c11
                      try clear q11
                      try clear c12
                      try clear c12b0
                      try clear c12b1
                      try clear c13
                      try clear c13b0
                      try clear c15
                      try clear c15b0
                      try clear c16
                      try clear c16b0
                      try clear c17
                      try clear c17b0
                      try clear c19
                      try clear c19b0
                      try clear c20
                      try clear c20b0
                      try clear c21
                      try clear c23
                      try clear c23b0
                      try clear c24
                      try clear c24b0
                      try clear c26
                      try clear c26b0
                      try clear c27
                      try clear c27b0
                      try clear c28
                      try clear c28b0
                      try clear c31
                      try clear c31b0
                      try clear c31b1
                      try clear c32
                      try clear c32b0
                      try clear c32b1
                      try clear c33
                      try clear c33b0
                      try clear c33b1
                      try clear c35
                      try clear c35b0
                      try clear c35b1
                      try clear c37
                      try clear q37
                      try clear c39
                      try clear c39b0
                      try clear c41
                      try clear c41b0
                      try clear c42
                      try clear c42b0
                      try clear c43
                      try clear c43b0
                      try clear c44
                      try clear c44b0
                      try clear hx617_0
                      try clear hx618_0
                      try clear hx619_0
                      try clear hx627_0
                      try clear hx628_0
                      try clear hx629_0
                      try clear hx630_0
                      try clear hx639_0
                      try clear p2
                      try clear p6
                      try clear p617
                      try clear p618
                      try clear p619
                      try clear p627
                      try clear p628
                      try clear p629
                      try clear p630
                      try clear p639
                      try clear q037
                      try clear q1
                      try clear q11
                      try clear q3
                      try clear q37
                      try clear q6
                      try clear q617
                      try clear q618
                      try clear q619
                      try clear q627
                      try clear q628
                      try clear q629
                      try clear q630
                      try clear q639
                      obtain ⟨kq, x130_39, rfl, HA, HJ39, HO_13, HB⟩ := hcut
                      cases kq with
                      | zero => exact absurd HA.out (by simp [pfor_read.j3])
                      | succ kj39 =>
                       have H := HA.out
                       clear HA
                       simp only [pfor_read.j3] at H
                       by_cases c45 : x130_39 = true
                       ·
                        subst c45
                        have H1 : (some (([] : List Int), 0, false)) = some (r1, r2, r3) := by rw [if_pos rfl] at H; exact H
                        clear H
                        have H := H1
                        clear H1
                        simp only [Option.some.injEq, Prod.mk.injEq] at H
                        obtain ⟨rfl, rfl, rfl⟩ := H
                        go_wp2
                        go_ret3
                        exact ⟨_, by first | rfl | (simp [errW_none, errW_some] <;> rfl) | (simp only [← hji22, ← hji25, ← hji30]; first | rfl | (simp [errW_none, errW_some] <;> rfl)) | (simp [*, errW_none, errW_some] <;> rfl), by first | exact Kd.R_nil _ _ _ _ _ | exact Kd.N_nil _ _ _ _ _ | exact Kd.V_nil _ _ _ _ _ | exact Kd.Q_nil _ _ _ _ _ | exact Kd.S_nil _ _ _ _ _, xB HB.out⟩
                       ·
                        replace c45 := Bool.eq_false_iff.mpr c45
                        subst c45
                        have H1 : (if 0 ≤ x9_3 then (if x9_3 < (l0.length : Int) then (if 0 ≤ (wrap64 (x9_3 + 1)) then (if (wrap64 (x9_3 + 1)) ≤ (l0.length : Int) then ((num_Take.f kj39 (l0.drop ((wrap64 (x9_3 + 1)) : Int).toNat)).bind fun bt645 => (if bt645.2.2 = 0 then (if 0 ≤ (wrap64 (rd l0 x9_3)) then (if (wrap64 (rd l0 x9_3)) < (x13_3.length : Int) then (if 0 ≤ (wrap64 (rd l0 (ji22))) then (pfor_read.l0 kj39 l0 (wrap64 (rd l0 0)) t624 (wrap64 (x9_3 + (wrap64 (1 + bt645.2.1)))) (wrap64 (rd l0 (ji22))) (wrap64 (x11_3 - 1)) (x13_3.set ((wrap64 (rd l0 x9_3)) : Int).toNat (IntKind.u64.wrap ((rd x13_3 (wrap64 (rd l0 x9_3))) + (shl .u64 bt645.1 (wrap64 (rd l0 (ji22)))))))) else (none)) else (none)) else (none)) else (some (([] : List Int), 0, false)))) else (none)) else (none)) else (none)) else (none)) = some (r1, r2, r3) := by rw [if_neg (show ¬ (false = true) by decide)] at H; exact H
                        clear H
                        have H := H1
                        clear H1
                        by_cases c46 : 0 ≤ x9_3
                        ·
                         rw [if_pos c46] at H
                         have c46b0 : decide (0 ≤ x9_3) = true := decide_eq_true c46
                         clear c46
                         by_cases c47 : x9_3 < (l0.length : Int)
                         ·
                          rw [if_pos c47] at H
                          have c47b0 : decide (x9_3 < (l0.length : Int)) = true := decide_eq_true c47
                          clear c47
                          obtain ⟨ji48, hji48⟩ : ∃ j_ : Int, (wrap64 (x9_3 + 1)) = j_ := ⟨_, rfl⟩
                          replace H : (if 0 ≤ (ji48) then (if (ji48) ≤ (l0.length : Int) then ((num_Take.f kj39 (l0.drop ((ji48) : Int).toNat)).bind fun bt645 => (if bt645.2.2 = 0 then (if 0 ≤ (wrap64 (rd l0 x9_3)) then (if (wrap64 (rd l0 x9_3)) < (x13_3.length : Int) then (if 0 ≤ (wrap64 (rd l0 (ji22))) then (pfor_read.l0 kj39 l0 (wrap64 (rd l0 0)) t624 (wrap64 (x9_3 + (wrap64 (1 + bt645.2.1)))) (wrap64 (rd l0 (ji22))) (wrap64 (x11_3 - 1)) (x13_3.set ((wrap64 (rd l0 x9_3)) : Int).toNat (IntKind.u64.wrap ((rd x13_3 (wrap64 (rd l0 x9_3))) + (shl .u64 bt645.1 (wrap64 (rd l0 (ji22)))))))) else (none)) else (none)) else (none)) else (some (([] : List Int), 0, false)))) else (none)) else (none)) = some (r1, r2, r3) := by first | (rw [hji48] at H; exact H) | (simp only [hji48] at H ⊢; exact H)
                          have hji48w : (IntKind.i64.wrap (x9_3 + 1)) = ji48 := (i64_w _).trans hji48
                          by_cases c49 : 0 ≤ (ji48)
                          ·
                           rw [if_pos c49] at H
                           have c49b0 := eq_true c49
                           have c49b1 : decide (0 ≤ (ji48)) = true := decide_eq_true c49
                           clear c49
                           by_cases c50 : (ji48) ≤ (l0.length : Int)
                           ·
                            rw [if_pos c50] at H
                            have c50b0 := eq_true c50
                            have c50b1 : decide ((ji48) ≤ (l0.length : Int)) = true := decide_eq_true c50
                            clear c50
                            obtain ⟨y641, hy641⟩ : ∃ y_ : List Int, y_ = (l0.drop ((ji48) : Int).toNat) := ⟨_, rfl⟩
                            replace H : ((num_Take.f kj39 y641).bind fun bt645 => (if bt645.2.2 = 0 then (if 0 ≤ (wrap64 (rd l0 x9_3)) then (if (wrap64 (rd l0 x9_3)) < (x13_3.length : Int) then (if 0 ≤ (wrap64 (rd l0 (ji22))) then (pfor_read.l0 kj39 l0 (wrap64 (rd l0 0)) t624 (wrap64 (x9_3 + (wrap64 (1 + bt645.2.1)))) (wrap64 (rd l0 (ji22))) (wrap64 (x11_3 - 1)) (x13_3.set ((wrap64 (rd l0 x9_3)) : Int).toNat (IntKind.u64.wrap ((rd x13_3 (wrap64 (rd l0 x9_3))) + (shl .u64 bt645.1 (wrap64 (rd l0 (ji22)))))))) else (none)) else (none)) else (none)) else (some (([] : List Int), 0, false)))) = some (r1, r2, r3) := by first | (rw [hy641]; with_reducible exact H) | (have H2_ := (Option.bind_some _ _).symm.trans H; rw [hy641]; with_reducible exact H2_) | (have H2_ := (Option.bind_some _ _).symm.trans H; with_reducible exact H2_) | with_reducible exact H | (rw [hy641]; exact H) | exact H
                            have Ny641 := aM hy641
                            clear hy641
                            replace H := Option.bind_eq_some_iff.mp H
                            obtain ⟨⟨t645, t646, t647⟩, A510, H⟩ := H
                            replace H : (if t647 = 0 then (if 0 ≤ (wrap64 (rd l0 x9_3)) then (if (wrap64 (rd l0 x9_3)) < (x13_3.length : Int) then (if 0 ≤ (wrap64 (rd l0 (ji22))) then (pfor_read.l0 kj39 l0 (wrap64 (rd l0 0)) t624 (wrap64 (x9_3 + (wrap64 (1 + t646)))) (wrap64 (rd l0 (ji22))) (wrap64 (x11_3 - 1)) (x13_3.set ((wrap64 (rd l0 x9_3)) : Int).toNat (IntKind.u64.wrap ((rd x13_3 (wrap64 (rd l0 x9_3))) + (shl .u64 t645 (wrap64 (rd l0 (ji22)))))))) else (none)) else (none)) else (none)) else (some (([] : List Int), 0, false))) = some (r1, r2, r3) := H
                            have A51 := aM A510
                            clear A510
                            by_cases c52 : t647 = 0
                            ·
                             rw [if_pos c52] at H
                             have c52b0 : (t647 == 0) = true := beq_iff_eq.mpr c52
                             have c52b1 : (t647 != 0) = false := bne_eq_false_iff_eq.mpr c52
                             clear c52
                             obtain ⟨ji53, hji53⟩ : ∃ j_ : Int, (wrap64 (rd l0 x9_3)) = j_ := ⟨_, rfl⟩
                             replace H : (if 0 ≤ (ji53) then (if (ji53) < (x13_3.length : Int) then (if 0 ≤ (wrap64 (rd l0 (ji22))) then (pfor_read.l0 kj39 l0 (wrap64 (rd l0 0)) t624 (wrap64 (x9_3 + (wrap64 (1 + t646)))) (wrap64 (rd l0 (ji22))) (wrap64 (x11_3 - 1)) (x13_3.set ((ji53) : Int).toNat (IntKind.u64.wrap ((rd x13_3 (ji53)) + (shl .u64 t645 (wrap64 (rd l0 (ji22)))))))) else (none)) else (none)) else (none)) = some (r1, r2, r3) := by first | (rw [hji53] at H; exact H) | (simp only [hji53] at H ⊢; exact H)
                             (try rw [hji53] at A51)
                             have hji53w : (IntKind.i64.wrap (rd l0 x9_3)) = ji53 := (i64_w _).trans hji53
                             by_cases c54 : 0 ≤ (ji53)
                             ·
                              rw [if_pos c54] at H
                              have c54b0 : decide (0 ≤ (ji53)) = true := decide_eq_true c54
                              clear c54
                              by_cases c55 : (ji53) < (x13_3.length : Int)
                              ·
                               rw [if_pos c55] at H
                               have c55b0 : decide ((ji53) < (x13_3.length : Int)) = true := decide_eq_true c55
                               clear c55
                               obtain ⟨ji56, hji56⟩ : ∃ j_ : Int, (wrap64 (rd l0 (ji22))) = j_ := ⟨_, rfl⟩
                               replace H : (if 0 ≤ (ji56) then (pfor_read.l0 kj39 l0 (wrap64 (rd l0 0)) t624 (wrap64 (x9_3 + (wrap64 (1 + t646)))) (ji56) (wrap64 (x11_3 - 1)) (x13_3.set ((ji53) : Int).toNat (IntKind.u64.wrap ((rd x13_3 (ji53)) + (shl .u64 t645 (ji56)))))) else (none)) = some (r1, r2, r3) := by first | (rw [hji56] at H; exact H) | (simp only [hji56] at H ⊢; exact H)
                               (try rw [hji56] at c28b0)
                               (try rw [hji56] at c32b0)
                               (try rw [hji56] at c32b1)
                               (try rw [hji56] at c32)
                               (try rw [hji56] at c33b0)
                               (try rw [hji56] at c33b1)
                               (try rw [hji56] at c33)
                               (try rw [hji56] at A51)
                               have hji56w : (IntKind.i64.wrap (rd l0 (ji22))) = ji56 := (i64_w _).trans hji56
                               by_cases c57 : 0 ≤ (ji56)
                               ·
                                rw [if_pos c57] at H
                                have c57b0 := eq_true c57
                                have c57b1 : decide (0 ≤ (ji56)) = true := decide_eq_true c57
                                clear c57
                                obtain ⟨ji58, hji58⟩ : ∃ j_ : Int, (shl .u64 t645 (ji56)) = j_ := ⟨_, rfl⟩
                                replace H : (pfor_read.l0 kj39 l0 (wrap64 (rd l0 0)) t624 (wrap64 (x9_3 + (wrap64 (1 + t646)))) (ji56) (wrap64 (x11_3 - 1)) (x13_3.set ((ji53) : Int).toNat (IntKind.u64.wrap ((rd x13_3 (ji53)) + (ji58))))) = some (r1, r2, r3) := by first | (rw [hji58] at H; exact H) | (simp only [hji58] at H ⊢; exact H)
                                (try rw [hji58] at A51)
                                have hji58_ : (IntKind.u64.wrap (t645 * 2 ^ min (ji56).toNat 64)) = ji58 := hji58
                                have hji58z : (ji56) ≤ 64 → (IntKind.u64.wrap (t645 * 2 ^ (ji56).toNat)) = ji58 := shl_small hji58
                                obtain ⟨y649, hy649⟩ : ∃ y_ : List Int, y_ = (x13_3.set ((ji53) : Int).toNat (IntKind.u64.wrap ((rd x13_3 (ji53)) + (ji58)))) := ⟨_, rfl⟩
                                replace H : (pfor_read.l0 kj39 l0 (wrap64 (rd l0 0)) t624 (wrap64 (x9_3 + (wrap64 (1 + t646)))) (ji56) (wrap64 (x11_3 - 1)) y649) = some (r1, r2, r3) := by first | (rw [hy649]; with_reducible exact H) | (have H2_ := (Option.bind_some _ _).symm.trans H; rw [hy649]; with_reducible exact H2_) | (have H2_ := (Option.bind_some _ _).symm.trans H; with_reducible exact H2_) | with_reducible exact H | (rw [hy649]; exact H) | exact H
                                have Ny649 := aM hy649
                                clear hy649
                                have H' := aM H
                                clear H
                                have p640 : 0 ≤ (x9_3 : Int) := of_decide_eq_true (by first | (with_reducible assumption) | assumption)
                                have q640 : x9_3 < (l0.length : Int) := of_decide_eq_true (by first | (with_reducible assumption) | assumption)
                                obtain ⟨ad640, e640, hx640_0⟩ := Kd.at_int HR0.out x9_3 p640 q640
                                obtain rfl : ad619 = ad640 := (by injection e640)
                                replace hx640_0 := (HB.out.cell (World.block_lt_of_cell? w _ hx640_0)).trans hx640_0
                                replace p640 := eq_true p640
                                replace q640 := eq_true q640
                                have q60 : ((ji48) : Int) ≤ ((l0.length : Int) : Int) := of_decide_eq_true (by first | (with_reducible assumption) | assumption)
                                obtain ⟨i060, hi060, _, hsz60, _⟩ := info_parts info5
                                have hroom60 : l0.length ≤ c0 := HC0.out
                                have hC60 : Kd.C (Kd.int .u8) _ (some ad619) l0.length l0 := HR0.out
                                have q060 : (0 : Int) ≤ ((ji48) : Int) := of_decide_eq_true (by first | (with_reducible assumption) | assumption)
                                have hcut60 := cut_from (P := Try.prog) 22 5 .i64 Try.underlying22 hi060 1 hsz60 (some ad619) l0.length c0 (ji48) q060 q60
                                have hr60 := Kd.C_drop (m := ((ji48) : Int).toNat) (c := c0) hC60 (by omega) hroom60
                                obtain ⟨A60, hA60⟩ : ∃ A_z, A_z = (if c0 = ((ji48) : Int).toNat then (some ad619) else ((some ad619) : Option Addr).map (·.add (((ji48) : Int).toNat * 1))) := ⟨_, rfl⟩
                                obtain ⟨c60, hc60⟩ : ∃ c_z, c_z = c0 - ((ji48) : Int).toNat := ⟨_, rfl⟩
                                have hy60 : y641.length = l0.length - ((ji48) : Int).toNat := (by rw [Ny641.out, List.length_drop] <;> omega)
                                rw [show (l0).drop ((ji48) : Int).toNat = y641 from Ny641.out.symm] at hr60
                                replace hr60 : Kd.C (Kd.int .u8) _ A60 y641.length y641 := (by rw [hA60]; exact hr60)
                                rw [← hy60, ← hA60, ← hc60] at hcut60
                                have HR644 := aM hr60
                                have HC644 := aM (show y641.length ≤ c60 from by rw [hy60, hc60]; exact Nat.sub_le_sub_right hroom60 _)
                                clear hr60 hC60 hroom60 hi060 hsz60 hc60
                                have KY60 := aM hy60
                                have KA60 := aM hA60
                                clear hy60 hA60
                                replace q60 := eq_true q60
                                try go_wp2_with (first | ((with_reducible refine gate_callee (f := 58) rfl ?_); refine goesL_ (some 141) rfl rfl Try.func58 (by kernel_rfl) rfl #[.slice A60 y641.length c60] rfl (by (try simp only [List.map_toArray, List.map_cons, List.map_nil]); first | done | rfl | (simp only [List.length_drop, List.length_take]; rfl)) ?_; (with_reducible refine (num_Take.calls kj39 _ _ y641 t645 t646 t647 _ ?side1 ?side2 A51.out).mono ?_); (case side1 => exact xC (Kd.C_below HR644.out HB.out)); (case side2 => exact HC644.out); rintro e w' ⟨rfl, ⟨nd, rfl⟩⟩; refine ⟨_, rfl, ?_⟩; (try (rw [drewN_self wc]; generalize hq_ : World.drewN wc _ = wc; have n0_ : Aside0 (Kd.R (Kd.int .u64) 40 wc w.heap.size (fun _ => True) v637 x13_3) := ⟨by rw [← hq_]; exact (xR HO_13.out)⟩; have n1_ : Aside0 (Below w.heap.size w wc) := ⟨by rw [← hq_]; exact (xB HB.out)⟩; clear HO_13 HB hq_; have HO_13 := n0_; have HB := n1_; clear n0_ n1_))))
                                have n0_ := aM (Kd.R_drew HO_13.out)
                                have n1_ := aM (below_drew1 HB.out)
                                clear HO_13
                                clear HB
                                have HO_13 := n0_
                                have HB := n1_
                                clear n0_ n1_
                                obtain ⟨Ao62, co62, eo62⟩ := Kd.R_slice HO_13.out
                                (first | subst eo62 | (injection eo62 with f1_ f2_ f3_; have f4_ := f1_.symm; have f5_ := f3_.symm; clear f1_ f2_ f3_; subst f4_; subst f5_))
                                have p648 : 0 ≤ ((ji53) : Int) := of_decide_eq_true (by first | (with_reducible assumption) | assumption)
                                have q648 : (ji53) < (x13_3.length : Int) := of_decide_eq_true (by first | (with_reducible assumption) | assumption)
                                obtain ⟨ad648, e648, hx648_0⟩ := Kd.at_int (Kd.R_reads' HO_13.out).2.2 (ji53) p648 q648
                                cases e648
                                replace p648 := eq_true p648
                                replace q648 := eq_true q648
                                have p59 : 0 ≤ ((ji53) : Int) := of_decide_eq_true (by first | (with_reducible assumption) | assumption)
                                have q59 : ((ji53) : Int) < ((x13_3.length : Int) : Int) := of_decide_eq_true (by first | (with_reducible assumption) | assumption)
                                obtain ⟨go59, co59, eo59, gb59, gl59, cl59, HG59⟩ := Kd.R_form HO_13.out (by omega)
                                (first | cases eo59 | (injection eo59 with ea_ en_ ec_; (first | subst ea_ | (injection ea_ with ea_; subst ea_)); subst ec_; clear en_))
                                have GB59 := aM gb59
                                have GG59 := aM HG59
                                clear gb59 gl59 HG59
                                (first | simp only [add_plain] at hx648_0 | skip)
                                obtain ⟨hx59_0, hf59_0⟩ := Kd.R_celln 0 HO_13.out ((ji53) : Int) p59 q59
                                replace p59 := eq_true p59
                                replace q59 := eq_true q59
                                have HP63 := Kd.R_putn HO_13.out ((ji53) : Int) (IntKind.u64.wrap ((rd x13_3 (ji53)) + (ji58)))
                                rw [← Ny649.out] at HP63
                                have HQ63 := aM HP63
                                clear HP63
                                refine start_ (n := 10) (S := fun w' => w'.cell? ⟨go59, ((ji53)).toNat, none⟩ = some (.int .u64 (rd x13_3 (ji53)))) (ds := [9]) b1_ (by kernel_rfl) rfl rfl (hx648_0) (fun hHeld => ?_); refine with_tabW pfor_read.tab25 pfor_read.bits25 (fun HT_ HW_ => ?_)
                                generalize wc.drew = w61 at HO_13 HB GG59 HQ63 hf59_0 hx59_0 hx648_0 hHeld ⊢
                                refine pure_ (i := 0) (N := some 147) (v := ?_) (a' := ?_) b3_ rfl rfl (any_of HT_.out (by kernel_rfl)) (fun _ _ _ h => h) (Or.inl ⟨by rfl, ?_⟩) ?_ ?_; rotate_left; (· intro w'; go_simp; with_reducible rfl); rotate_left; (· simp only [xQ, i64_w, i32_w]; rfl)
                                refine pure_ (i := 1) (N := some 148) (v := ?_) (a' := ?_) b5_ rfl rfl (any_of HT_.out (by kernel_rfl)) (fun _ _ _ h => h) (Or.inl ⟨by rfl, ?_⟩) ?_ ?_; rotate_left; (· intro w'; go_simp; with_reducible rfl); rotate_left; (· simp only [xQ, i64_w, i32_w]; rfl)
                                refine pure_ (i := 2) (N := some 149) (v := ?_) (a' := ?_) b8_ rfl rfl (any_of HT_.out (by kernel_rfl)) (fun _ _ _ h => h) (Or.inl ⟨by rfl, ?_⟩) ?_ ?_; rotate_left; (· intro w'; go_simp; with_reducible rfl); rotate_left; (· simp only [xQ, i64_w, i32_w]; rfl)
                                refine pure_ (i := 4) (N := some 151) (v := ?_) (a' := ?_) b64_ rfl rfl (any_of HT_.out (by kernel_rfl)) (fun _ _ _ h => h) (Or.inl ⟨by rfl, ?_⟩) ?_ ?_; rotate_left; (· intro w'; go_simp; with_reducible rfl); rotate_left; (· simp only [xQ, i64_w, i32_w]; rfl)
                                refine pure_ (i := 5) (N := some 152) (v := ?_) (a' := ?_) b65_ rfl rfl (any_of HT_.out (by kernel_rfl)) (fun _ _ _ h => h) (Or.inl ⟨by rfl, ?_⟩) ?_ ?_; rotate_left; (· intro w'; go_simp; with_reducible rfl); rotate_left; (· simp only [xQ, i64_w, i32_w]; rfl)
                                refine pure_ (i := 6) (N := some 153) (v := ?_) (a' := ?_) b66_ rfl rfl (any_of HT_.out (by kernel_rfl)) (fun _ _ _ h => h) (Or.inl ⟨by rfl, ?_⟩) ?_ ?_; rotate_left; (· intro w'; go_simp; with_reducible rfl); rotate_left; (· simp only [xQ, i64_w, i32_w]; rfl)
                                refine take_ (i := 3) (N := some 150) (v := ?_) (a' := ?_) b67_ rfl rfl (take_ofW HT_.out HW_.out (by kernel_rfl)) (fun _ _ _ h => h) (Or.inl ⟨by rfl, ?_⟩) hHeld ?_ ?_
                                rotate_left
                                ·
                                 intro w' s0
                                 go_simp
                                 with_reducible rfl
                                rotate_left
                                ·
                                 simp only [xQ, i64_w, i32_w]
                                 rfl
                                refine pure_ (i := 7) (N := some 154) (v := ?_) (a' := ?_) b17_ rfl rfl (any_of HT_.out (by kernel_rfl)) (fun _ _ _ h => h) (Or.inl ⟨by rfl, ?_⟩) ?_ ?_; rotate_left; (· intro w'; go_simp; with_reducible rfl); rotate_left; (· simp only [xQ, i64_w, i32_w]; rfl)
                                refine pure_ (i := 8) (N := some 155) (v := ?_) (a' := ?_) b19_ rfl rfl (any_of HT_.out (by kernel_rfl)) (fun _ _ _ h => h) (Or.inl ⟨by rfl, ?_⟩) ?_ ?_; rotate_left; (· intro w'; go_simp; with_reducible rfl); rotate_left; (· simp only [xQ, i64_w, i32_w]; rfl)
                                refine last_ (i := 9) (N := none) b20_ rfl rfl (one_of HT_.out (by kernel_rfl)) (by decide) (fun K hK => ?_)
                                refine skip_ (w1 := ?_) (by rfl) rfl ?_ ?_
                                rotate_left
                                ·
                                 go_simp
                                 rfl
                                refine hK.out _ _ ?_
                                clear hK K
                                refine done_ (done_of HT_.out (by kernel_rfl)) ?_
                                try go_wp2
                                (try simp only [← hji56])
                                (try simp only [← hji56] at H')
                                go_roundg kj39
                                case measure => have := HJ1.out; have := HJ9.out; have := HK3.out; have := HJ39.out; omega
                                case rel => exact ⟨(wrap64 (x9_3 + (wrap64 (1 + t646)))), (wrap64 (x11_3 - 1)), (y649), (by first | rfl | (simp; done) | (simp [*]; done)), (by first | rfl | (simp; done) | (simp [*]; done)), H', ⟨by have := HJ1.out; have := HJ9.out; have := HK3.out; have := HJ39.out; omega⟩, ⟨by (with_reducible repeat (first | apply Kd.R_alloc | apply Kd.R_drewN | apply Kd.R_drew)); exact HQ63.out⟩, ⟨by repeat (first | (with_reducible first | exact HB.out | apply below_alloc | apply pw_below_drewN | apply below_drew1 | refine below_set ?_ GB59.out) | exact HB.out)⟩⟩
                               ·
                                rw [if_neg c57] at H
                                exact absurd H (by simp)
                              ·
                               rw [if_neg c55] at H
                               exact absurd H (by simp)
                             ·
                              rw [if_neg c54] at H
                              exact absurd H (by simp)
                            ·
                             rw [if_neg c52] at H
                             have c52b0 : (t647 == 0) = false := beq_eq_false_iff_ne.mpr c52
                             have c52b1 : (t647 != 0) = true := bne_iff_ne.mpr c52
                             simp only [Option.some.injEq, Prod.mk.injEq] at H
                             obtain ⟨rfl, rfl, rfl⟩ := H
                             have p640 : 0 ≤ (x9_3 : Int) := of_decide_eq_true (by first | (with_reducible assumption) | assumption)
                             have q640 : x9_3 < (l0.length : Int) := of_decide_eq_true (by first | (with_reducible assumption) | assumption)
                             obtain ⟨ad640, e640, hx640_0⟩ := Kd.at_int HR0.out x9_3 p640 q640
                             obtain rfl : ad619 = ad640 := (by injection e640)
                             replace hx640_0 := (HB.out.cell (World.block_lt_of_cell? w _ hx640_0)).trans hx640_0
                             replace p640 := eq_true p640
                             replace q640 := eq_true q640
                             have q64 : ((ji48) : Int) ≤ ((l0.length : Int) : Int) := of_decide_eq_true (by first | (with_reducible assumption) | assumption)
                             obtain ⟨i064, hi064, _, hsz64, _⟩ := info_parts info5
                             have hroom64 : l0.length ≤ c0 := HC0.out
                             have hC64 : Kd.C (Kd.int .u8) _ (some ad619) l0.length l0 := HR0.out
                             have q064 : (0 : Int) ≤ ((ji48) : Int) := of_decide_eq_true (by first | (with_reducible assumption) | assumption)
                             have hcut64 := cut_from (P := Try.prog) 22 5 .i64 Try.underlying22 hi064 1 hsz64 (some ad619) l0.length c0 (ji48) q064 q64
                             have hr64 := Kd.C_drop (m := ((ji48) : Int).toNat) (c := c0) hC64 (by omega) hroom64
                             obtain ⟨A64, hA64⟩ : ∃ A_z, A_z = (if c0 = ((ji48) : Int).toNat then (some ad619) else ((some ad619) : Option Addr).map (·.add (((ji48) : Int).toNat * 1))) := ⟨_, rfl⟩
                             obtain ⟨c64, hc64⟩ : ∃ c_z, c_z = c0 - ((ji48) : Int).toNat := ⟨_, rfl⟩
                             have hy64 : y641.length = l0.length - ((ji48) : Int).toNat := (by rw [Ny641.out, List.length_drop] <;> omega)
                             rw [show (l0).drop ((ji48) : Int).toNat = y641 from Ny641.out.symm] at hr64
                             replace hr64 : Kd.C (Kd.int .u8) _ A64 y641.length y641 := (by rw [hA64]; exact hr64)
                             rw [← hy64, ← hA64, ← hc64] at hcut64
                             have HR644 := aM hr64
                             have HC644 := aM (show y641.length ≤ c64 from by rw [hy64, hc64]; exact Nat.sub_le_sub_right hroom64 _)
                             clear hr64 hC64 hroom64 hi064 hsz64 hc64
                             have KY64 := aM hy64
                             have KA64 := aM hA64
                             clear hy64 hA64
                             replace q64 := eq_true q64
                             go_wp2_with (first | ((with_reducible refine gate_callee (f := 58) rfl ?_); refine goesL_ (some 141) rfl rfl Try.func58 (by kernel_rfl) rfl #[.slice A64 y641.length c64] rfl (by (try simp only [List.map_toArray, List.map_cons, List.map_nil]); first | done | rfl | (simp only [List.length_drop, List.length_take]; rfl)) ?_; (with_reducible refine (num_Take.calls kj39 _ _ y641 t645 t646 t647 _ ?side1 ?side2 A51.out).mono ?_); (case side1 => exact xC (Kd.C_below HR644.out HB.out)); (case side2 => exact HC644.out); rintro e w' ⟨rfl, ⟨nd, rfl⟩⟩; refine ⟨_, rfl, ?_⟩))
                             go_ret3
                             exact ⟨_, by first | rfl | (simp [errW_none, errW_some] <;> rfl) | (simp only [← hji22, ← hji25, ← hji30, ← hji48]; first | rfl | (simp [errW_none, errW_some] <;> rfl)) | (simp [*, errW_none, errW_some] <;> rfl), by first | exact Kd.R_nil _ _ _ _ _ | exact Kd.N_nil _ _ _ _ _ | exact Kd.V_nil _ _ _ _ _ | exact Kd.Q_nil _ _ _ _ _ | exact Kd.S_nil _ _ _ _ _, xB HB.out⟩
                           ·
                            rw [if_neg c50] at H
                            exact absurd H (by simp)
                          ·
                           rw [if_neg c49] at H
                           exact absurd H (by simp)
                         ·
                          rw [if_neg c47] at H
                          exact absurd H (by simp)
                        ·
                         rw [if_neg c46] at H
                         exact absurd H (by simp)
                    ·
                     rw [if_neg c39] at H
                     have c39b0 : decide (0 < x11_3) = false := decide_eq_false c39
                     clear c39
                     have H' := aM H
                     clear H
                     obtain ⟨Ao65, co65, eo65⟩ := Kd.R_slice HO_13.out
                     subst eo65
                     go_wp2
                     go_loopg [162] k3 (fun kq v162 w' => ∃ (x13_4 : List Int) (x162_4 : Int), v162 = .int .i64 x162_4 ∧ Aside0 (pfor_read.l1 kq t624 x9_3 x13_4 (x13_3.length : Int) x162_4 = some (r1, r2, r3)) ∧ Aside0 (kq ≤ k3) ∧ Aside0 (Kd.R (Kd.int .u64) 40 w' w.heap.size (fun _ => True) (.slice Ao65 x13_3.length co65) x13_4) ∧ Aside0 (Below w.heap.size w w'))
                     case atStart => exact ⟨(x13_3), (0), (by first | rfl | (simp; done) | (simp [*]; done)), H', ⟨Nat.le_refl _⟩, ⟨by (with_reducible repeat (first | apply Kd.R_alloc | apply Kd.R_drewN | apply Kd.R_drew)); exact HO_13.out⟩, ⟨xB HB.out⟩⟩
                     case round =>
                      clear H'
                      try clear c1
                      try clear q1
                      try clear c2
                      try clear p2
                      try clear c3
                      try clear c3b0
                      try clear c3b1
                      try clear q3
                      try clear c4
                      try clear c4b0
                      try clear c4b1
                      try clear c5
                      try clear c5b0
                      try clear p5
                      try clear q5
                      try clear hx5
                      try clear hf5
                      try clear c6
                      try clear p6
                      try clear q6
                      try clear hx6
                      try clear qi6
                      try clear c7
                      try clear c7b0
                      try clear c7b1
                      try clear c8
                      try clear c8b0
                      try clear c8b1
                      try clear c10
                      try clear c11
                      try clear q11
                      try clear c12
                      try clear c12b0
                      try clear c12b1
                      try clear c13
                      try clear c13b0
                      try clear c15
                      try clear c15b0
                      try clear c16
                      try clear c16b0
                      try clear c17
                      try clear c17b0
                      try clear c19
                      try clear c19b0
                      try clear c20
                      try clear c20b0
                      try clear c21
                      try clear c23
                      try clear c23b0
                      try clear c24
                      try clear c24b0
                      try clear c26
                      try clear c26b0
                      try clear c27
                      try clear c27b0
                      try clear c28
                      try clear c28b0
                      try clear c31
                      try clear c31b0
                      try clear c31b1
                      try clear c32
                      try clear c32b0
                      try clear c32b1
                      try clear c33
                      try clear c33b0
                      try clear c33b1
                      try clear c35
                      try clear c35b0
                      try clear c35b1
                      try clear c37
                      try clear q37
                      try clear c39
                      try clear c39b0
                      try clear c41
                      try clear c41b0
                      try clear c42
                      try clear c42b0
                      try clear c43
                      try clear c43b0
                      try clear c44
                      try clear c44b0
                      try clear c45
                      try clear c46
                      try clear c46b0
                      try clear c47
                      try clear c47b0
                      try clear c49
                      try clear c49b0
                      try clear c49b1
                      try clear c50
                      try clear c50b0
                      try clear c50b1
                      try clear c52
                      try clear c52b0
                      try clear c52b1
                      try clear c54
                      try clear c54b0
                      try clear c55
                      try clear c55b0
                      try clear c57
                      try clear c57b0
                      try clear c57b1
                      try clear c58
                      try clear p59
                      try clear q59
                      try clear hx59
                      try clear hf59
                      try clear c60
                      try clear q60
                      try clear p61
                      try clear q61
                      try clear hx61
                      try clear p62
                      try clear q62
                      try clear hx62
                      try clear p63
                      try clear q63
                      try clear hx63
                      try clear c64
                      try clear p64
                      try clear q64
                      try clear hx64
                      try clear hx59_0
                      try clear hx617_0
                      try clear hx618_0
                      try clear hx619_0
                      try clear hx627_0
                      try clear hx628_0
                      try clear hx629_0
                      try clear hx630_0
                      try clear hx639_0
                      try clear hx640_0
                      try clear hx648_0
                      try clear p2
                      try clear p59
                      try clear p6
                      try clear p617
                      try clear p618
                      try clear p619
                      try clear p627
                      try clear p628
                      try clear p629
                      try clear p630
                      try clear p639
                      try clear p640
                      try clear p648
                      try clear q037
                      try clear q060
                      try clear q064
                      try clear q1
                      try clear q11
                      try clear q3
                      try clear q37
                      try clear q59
                      try clear q6
                      try clear q60
                      try clear q617
                      try clear q618
                      try clear q619
                      try clear q627
                      try clear q628
                      try clear q629
                      try clear q630
                      try clear q639
                      try clear q64
                      try clear q640
                      try clear q648
                      obtain ⟨x13_4, x162_4, rfl, HA, HK4, HO_13, HB⟩ := hrel
                      have hl13_4 := (Kd.R_reads' HO_13.out).1
                      rw [hl13_4] at HO_13
                      (try simp only [hl13_4])
                      cases gk with
                      | zero => exact absurd HA.out (by simp [pfor_read.l1])
                      | succ k4 =>
                       have H := HA.out
                       clear HA
                       simp only [pfor_read.l1] at H
                       by_cases c66 : x162_4 < (x13_3.length : Int)
                       ·
                        rw [if_pos c66] at H
                        have c66b0 : decide (x162_4 < (x13_3.length : Int)) = true := decide_eq_true c66
                        (try (have c66h0 := c66b0; simp only [hl13_4] at c66h0))
                        clear c66
                        by_cases c67 : 0 ≤ x162_4
                        ·
                         rw [if_pos c67] at H
                         have c67b0 : decide (0 ≤ x162_4) = true := decide_eq_true c67
                         clear c67
                         by_cases c68 : x162_4 < (x13_4.length : Int)
                         ·
                          rw [if_pos c68] at H
                          have c68b0 : decide (x162_4 < (x13_4.length : Int)) = true := decide_eq_true c68
                          (try (have c68h0 := c68b0; simp only [hl13_4] at c68h0))
                          clear c68
                          obtain ⟨y651, hy651⟩ : ∃ y_ : List Int, y_ = (x13_4.set (x162_4 : Int).toNat (IntKind.u64.wrap ((rd x13_4 x162_4) + t624))) := ⟨_, rfl⟩
                          replace H : (pfor_read.l1 k4 t624 x9_3 y651 (x13_3.length : Int) (wrap64 (x162_4 + 1))) = some (r1, r2, r3) := by first | (rw [hy651]; with_reducible exact H) | (have H2_ := (Option.bind_some _ _).symm.trans H; rw [hy651]; with_reducible exact H2_) | (have H2_ := (Option.bind_some _ _).symm.trans H; with_reducible exact H2_) | with_reducible exact H | (rw [hy651]; exact H) | exact H
                          have Ny651 := aM hy651
                          clear hy651
                          have H' := aM H
                          clear H
                          have p650 : 0 ≤ (x162_4 : Int) := of_decide_eq_true (by first | (with_reducible assumption) | assumption)
                          have q650 : x162_4 < (x13_4.length : Int) := of_decide_eq_true (by first | (with_reducible assumption) | assumption)
                          obtain ⟨ad650, e650, hx650_0⟩ := Kd.at_int (Kd.R_reads' HO_13.out).2.2 x162_4 p650 q650
                          cases e650
                          replace p650 := eq_true p650
                          replace q650 := eq_true q650
                          have p69 : 0 ≤ (x162_4 : Int) := of_decide_eq_true (by first | (with_reducible assumption) | assumption)
                          have q69 : (x162_4 : Int) < ((x13_4.length : Int) : Int) := of_decide_eq_true (by first | (with_reducible assumption) | assumption)
                          obtain ⟨go69, co69, eo69, gb69, gl69, cl69, HG69⟩ := Kd.R_form HO_13.out (by omega)
                          (first | cases eo69 | (injection eo69 with ea_ en_ ec_; (first | subst ea_ | (injection ea_ with ea_; subst ea_)); subst ec_; clear en_))
                          have GB69 := aM gb69
                          have GG69 := aM HG69
                          clear gb69 gl69 HG69
                          (first | simp only [add_plain] at hx650_0 | skip)
                          obtain ⟨hx69_0, hf69_0⟩ := Kd.R_celln 0 HO_13.out (x162_4 : Int) p69 q69
                          replace p69 := eq_true p69
                          replace q69 := eq_true q69
                          have HP70 := Kd.R_putg HO_13.out (x162_4 : Int) (IntKind.u64.wrap ((rd x13_4 x162_4) + t624))
                          go_wp2_with (first | ((with_reducible refine gate_store (t := 40) (p := 171) rfl ?_); refine store_event (t := 40) (p := 171) (v := ?vo_w71) (w1 := (wr.setCell ⟨go69, (x162_4 : Int).toNat, none⟩ (.int .u64 (IntKind.u64.wrap ((rd x13_4 x162_4) + t624))))) ?hg ?ho ?hn ?hr ?_; (case ho => rfl); (case hg => rfl); (case hn => rfl); (case hr => first | (go_simp; done) | (go_simp; rfl)); intro w71 hw; have hg : wr.grownBy w71 (some go69) := (by rw [hw]; exact HP70.2); have hp_ : Kd.R (Kd.int .u64) 40 w71 w.heap.size (fun _ => True) (.slice (some ⟨go69, 0, none⟩) x13_4.length co65) y651 := (by rw [hw, Ny651.out]; exact HP70.1); clear HP70; have n0_ := aM (hp_); have n1_ := aM ((by rw [hw]; exact below_set (HB.out) GB69.out : Below w.heap.size w w71)); clear HO_13; clear HB; have HO_13 := n0_; have HB := n1_; clear n0_ n1_; clear hg hw hp_))
                          (try simp only [← hl13_4])
                          go_roundg k4
                          case measure => have := HJ1.out; have := HJ9.out; have := HK3.out; have := HK4.out; omega
                          case rel => exact ⟨(y651), (wrap64 (x162_4 + 1)), (by first | rfl | (simp; done) | (simp [*]; done)), H', ⟨by have := HJ1.out; have := HJ9.out; have := HK3.out; have := HK4.out; omega⟩, ⟨by (try simp only [hl13_4]); (with_reducible repeat (first | apply Kd.R_alloc | apply Kd.R_drewN | apply Kd.R_drew)); exact HO_13.out⟩, ⟨xB HB.out⟩⟩
                         ·
                          rw [if_neg c68] at H
                          exact absurd H (by simp)
                        ·
                         rw [if_neg c67] at H
                         exact absurd H (by simp)
                       ·
                        rw [if_neg c66] at H
                        have c66b0 : decide (x162_4 < (x13_3.length : Int)) = false := decide_eq_false c66
                        (try (have c66h0 := c66b0; simp only [hl13_4] at c66h0))
                        clear c66
                        simp only [Option.some.injEq, Prod.mk.injEq] at H
                        obtain ⟨rfl, rfl, rfl⟩ := H
                        go_wp2
                        go_ret3
                        exact ⟨_, by first | rfl | (simp [errW_none, errW_some] <;> rfl) | (simp only [← hji22, ← hji25, ← hji30]; first | rfl | (simp [errW_none, errW_some] <;> rfl)) | (simp [*, errW_none, errW_some] <;> rfl), by (with_reducible repeat (first | apply Kd.R_alloc | apply Kd.R_drewN | apply Kd.R_drew)); exact HO_13.out, xB HB.out⟩
                 ·
                  rw [if_neg c35] at H
                  have c35b0 : (t636 == 0) = false := beq_eq_false_iff_ne.mpr c35
                  have c35b1 : (t636 != 0) = true := bne_iff_ne.mpr c35
                  simp only [Option.some.injEq, Prod.mk.injEq] at H
                  obtain ⟨rfl, rfl, rfl⟩ := H
                  try go_wp2
                  have n0_ := aM (below_drew1 HB.out)
                  clear HB
                  have HB := n0_
                  clear n0_
                  have p629 : 0 ≤ ((ji22) : Int) := of_decide_eq_true (by first | (with_reducible assumption) | assumption)
                  have q629 : (ji22) < (l0.length : Int) := of_decide_eq_true (by first | (with_reducible assumption) | assumption)
                  obtain ⟨ad629, e629, hx629_0⟩ := Kd.at_int HR0.out (ji22) p629 q629
                  have hw629_0 := hx629_0
                  obtain rfl : ad619 = ad629 := (by injection e629)
                  replace hx629_0 := (HB.out.cell (World.block_lt_of_cell? w _ hx629_0)).trans hx629_0
                  replace p629 := eq_true p629
                  replace q629 := eq_true q629
                  have p630 : 0 ≤ ((ji25) : Int) := of_decide_eq_true (by first | (with_reducible assumption) | assumption)
                  have q630 : (ji25) < (l0.length : Int) := of_decide_eq_true (by first | (with_reducible assumption) | assumption)
                  obtain ⟨ad630, e630, hx630_0⟩ := Kd.at_int HR0.out (ji25) p630 q630
                  have hw630_0 := hx630_0
                  obtain rfl : ad619 = ad630 := (by injection e630)
                  replace hx630_0 := (HB.out.cell (World.block_lt_of_cell? w _ hx630_0)).trans hx630_0
                  replace p630 := eq_true p630
                  replace q630 := eq_true q630
                  refine start_ (n := 13) (S := fun w' => w'.cell? (ad619.add ((ji22)).toNat) = some (.int .u8 (rd l0 (ji22))) ∧ w'.cell? (ad619.add ((ji25)).toNat) = some (.int .u8 (rd l0 (ji25)))) (ds := []) b21_ (by kernel_rfl) rfl rfl ⟨((HB.out.cell (World.block_lt_of_cell? w _ hw629_0)).trans hw629_0), ((HB.out.cell (World.block_lt_of_cell? w _ hw630_0)).trans hw630_0)⟩ (fun hHeld => ?_); refine with_tabW pfor_read.tab8 pfor_read.bits8 (fun HT_ HW_ => ?_)
                  generalize wc.drew = w72 at HB hx629_0 hx630_0 hHeld ⊢
                  refine pure_ (i := 0) (N := some 73) (v := ?_) (a' := ?_) b22_ rfl rfl (any_of HT_.out (by kernel_rfl)) (fun _ _ _ h => h) (Or.inl ⟨by rfl, ?_⟩) ?_ ?_; rotate_left; (· intro w'; go_simp; with_reducible rfl); rotate_left; (· simp only [xQ, i64_w, i32_w]; rfl)
                  refine pure_ (i := 1) (N := some 74) (v := ?_) (a' := ?_) b58_ rfl rfl (any_of HT_.out (by kernel_rfl)) (fun _ _ _ h => h) (Or.inl ⟨by rfl, ?_⟩) ?_ ?_; rotate_left; (· intro w'; go_simp; with_reducible rfl); rotate_left; (· simp only [xQ, i64_w, i32_w]; rfl)
                  refine pure_ (i := 2) (N := some 75) (v := ?_) (a' := ?_) b59_ rfl rfl (any_of HT_.out (by kernel_rfl)) (fun _ _ _ h => h) (Or.inl ⟨by rfl, ?_⟩) ?_ ?_; rotate_left; (· intro w'; go_simp; with_reducible rfl); rotate_left; (· simp only [xQ, i64_w, i32_w]; rfl)
                  refine pure_ (i := 5) (N := some 78) (v := ?_) (a' := ?_) b60_ rfl rfl (any_of HT_.out (by kernel_rfl)) (fun _ _ _ h => h) (Or.inl ⟨by rfl, ?_⟩) ?_ ?_; rotate_left; (· intro w'; go_simp; with_reducible rfl); rotate_left; (· simp only [xQ, i64_w, i32_w]; rfl)
                  refine pure_ (i := 6) (N := some 79) (v := ?_) (a' := ?_) b61_ rfl rfl (any_of HT_.out (by kernel_rfl)) (fun _ _ _ h => h) (Or.inl ⟨by rfl, ?_⟩) ?_ ?_; rotate_left; (· intro w'; go_simp; with_reducible rfl); rotate_left; (· simp only [xQ, i64_w, i32_w]; rfl)
                  refine pure_ (i := 7) (N := some 80) (v := ?_) (a' := ?_) b62_ rfl rfl (any_of HT_.out (by kernel_rfl)) (fun _ _ _ h => h) (Or.inl ⟨by rfl, ?_⟩) ?_ ?_; rotate_left; (· intro w'; go_simp; with_reducible rfl); rotate_left; (· simp only [xQ, i64_w, i32_w]; rfl)
                  refine pure_ (i := 8) (N := some 81) (v := ?_) (a' := ?_) b63_ rfl rfl (any_of HT_.out (by kernel_rfl)) (fun _ _ _ h => h) (Or.inl ⟨by rfl, ?_⟩) ?_ ?_; rotate_left; (· intro w'; go_simp; with_reducible rfl); rotate_left; (· simp only [xQ, i64_w, i32_w]; rfl)
                  refine take_ (i := 3) (N := some 76) (v := ?_) (a' := ?_) b29_ rfl rfl (take_ofW HT_.out HW_.out (by kernel_rfl)) (fun _ _ _ h => h) (Or.inl ⟨by rfl, ?_⟩) hHeld ?_ ?_; rotate_left; (· rintro w' ⟨s0, s1⟩; go_simp; with_reducible rfl); rotate_left; (· simp only [xQ, i64_w, i32_w]; rfl)
                  refine pure_ (i := 4) (N := some 77) (v := ?_) (a' := ?_) b30_ rfl rfl (any_of HT_.out (by kernel_rfl)) (fun _ _ _ h => h) (Or.inl ⟨by rfl, ?_⟩) ?_ ?_; rotate_left; (· intro w'; go_simp; with_reducible rfl); rotate_left; (· simp only [xQ, i64_w, i32_w]; rfl)
                  refine pure_ (i := 11) (N := some 10) (v := ?_) (a' := ?_) b68_ rfl rfl (any_of HT_.out (by kernel_rfl)) (fun _ _ _ h => h) (Or.inl ⟨by rfl, ?_⟩) ?_ ?_; rotate_left; (· intro w'; go_simp; with_reducible rfl); rotate_left; (· simp only [xQ, i64_w, i32_w]; rfl)
                  refine take_ (i := 9) (N := some 82) (v := ?_) (a' := ?_) b69_ rfl rfl (take_ofW HT_.out HW_.out (by kernel_rfl)) (fun _ _ _ h => h) (Or.inl ⟨by rfl, ?_⟩) hHeld ?_ ?_; rotate_left; (· rintro w' ⟨s0, s1⟩; go_simp; with_reducible rfl); rotate_left; (· simp only [xQ, i64_w, i32_w]; rfl)
                  refine pure_ (i := 10) (N := some 83) (v := ?_) (a' := ?_) b33_ rfl rfl (any_of HT_.out (by kernel_rfl)) (fun _ _ _ h => h) (Or.inl ⟨by rfl, ?_⟩) ?_ ?_; rotate_left; (· intro w'; go_simp; with_reducible rfl); rotate_left; (· simp only [xQ, i64_w, i32_w]; rfl)
                  refine pure_ (i := 12) (N := some 11) (v := ?_) (a' := ?_) b34_ rfl rfl (any_of HT_.out (by kernel_rfl)) (fun _ _ _ h => h) (Or.inl ⟨by rfl, ?_⟩) ?_ ?_; rotate_left; (· intro w'; go_simp; with_reducible rfl); rotate_left; (· simp only [xQ, i64_w, i32_w]; rfl)
                  refine done_ (done_of HT_.out (by kernel_rfl)) ?_
                  have q73 : ((wrap64 ((ji30) + (wrap64 (Int.tdiv (wrap64 ((wrap64 ((wrap64 (rd l0 0)) * (wrap64 (rd l0 (ji22))))) + 7)) 8)))) : Int) ≤ ((l0.length : Int) : Int) := of_decide_eq_true (by first | (with_reducible assumption) | assumption)
                  obtain ⟨i073, hi073, _, hsz73, _⟩ := info_parts info5
                  have hroom73 : l0.length ≤ c0 := HC0.out
                  have hC73 : Kd.C (Kd.int .u8) _ (some ad619) l0.length l0 := HR0.out
                  have ql73 : ((ji30) : Int) ≤ ((wrap64 ((ji30) + (wrap64 (Int.tdiv (wrap64 ((wrap64 ((wrap64 (rd l0 0)) * (wrap64 (rd l0 (ji22))))) + 7)) 8)))) : Int) := of_decide_eq_true (by first | (with_reducible assumption) | assumption)
                  have q073 : (0 : Int) ≤ ((ji30) : Int) := of_decide_eq_true (by first | (with_reducible assumption) | assumption)
                  have hcut73 := cut_mid (P := Try.prog) 22 5 .i64 .i64 Try.underlying22 hi073 1 hsz73 (some ad619) l0.length c0 (ji30) (wrap64 ((ji30) + (wrap64 (Int.tdiv (wrap64 ((wrap64 ((wrap64 (rd l0 0)) * (wrap64 (rd l0 (ji22))))) + 7)) 8)))) q073 ql73 q73 hroom73
                  have hr73 := Kd.C_mid (lo := ((ji30) : Int).toNat) (hi := ((wrap64 ((ji30) + (wrap64 (Int.tdiv (wrap64 ((wrap64 ((wrap64 (rd l0 0)) * (wrap64 (rd l0 (ji22))))) + 7)) 8)))) : Int).toNat) (c := c0) hC73 (by omega) (by omega) hroom73
                  obtain ⟨A73, hA73⟩ : ∃ A_z, A_z = (if c0 = ((ji30) : Int).toNat then (some ad619) else ((some ad619) : Option Addr).map (·.add (((ji30) : Int).toNat * 1))) := ⟨_, rfl⟩
                  obtain ⟨c73, hc73⟩ : ∃ c_z, c_z = c0 - ((ji30) : Int).toNat := ⟨_, rfl⟩
                  have hy73 : y631.length = ((wrap64 ((ji30) + (wrap64 (Int.tdiv (wrap64 ((wrap64 ((wrap64 (rd l0 0)) * (wrap64 (rd l0 (ji22))))) + 7)) 8)))) : Int).toNat - ((ji30) : Int).toNat := (by rw [Ny631.out, List.length_drop, List.length_take] <;> omega)
                  rw [show ((l0).take ((wrap64 ((ji30) + (wrap64 (Int.tdiv (wrap64 ((wrap64 ((wrap64 (rd l0 0)) * (wrap64 (rd l0 (ji22))))) + 7)) 8)))) : Int).toNat).drop ((ji30) : Int).toNat = y631 from Ny631.out.symm] at hr73
                  replace hr73 : Kd.C (Kd.int .u8) _ A73 y631.length y631 := (by rw [hA73]; exact hr73)
                  rw [← hy73, ← hA73, ← hc73] at hcut73
                  have HR634 := aM hr73
                  have HC634 := aM (show y631.length ≤ c73 from by rw [hy73, hc73]; exact Nat.sub_le_sub_right (Nat.le_trans (by omega) hroom73) _)
                  clear hr73 hC73 hroom73 hi073 hsz73 hc73
                  have KY73 := aM hy73
                  have KA73 := aM hA73
                  clear hy73 hA73
                  replace q73 := eq_true q73
                  try go_wp2_with (first | ((with_reducible refine gate_callee (f := 108) rfl ?_); refine goesL_ (some 104) rfl rfl Try.func108 (by kernel_rfl) rfl #[.slice A73 y631.length c73, .int .i64 (wrap64 (rd l0 0)), .int .i64 (wrap64 (rd l0 (ji22)))] rfl (by (try simp only [List.map_toArray, List.map_cons, List.map_nil]); first | done | (simp only [hji22]; rfl) | rfl | (simp only [List.length_drop, List.length_take]; rfl)) ?_; (with_reducible refine (bits_Unpack.calls kj9 _ _ y631 (wrap64 (rd l0 0)) (wrap64 (rd l0 (ji22))) t635 t636 _ ?side1 ?side2 A34.out).mono ?_); (case side1 => exact xC (Kd.C_below HR634.out HB.out)); (case side2 => exact HC634.out); rintro e w74 ⟨v637, rfl, ho0, hb⟩; refine ⟨_, rfl, ?_⟩; have n0_ := aM (Kd.R_lower ho0 (below_size (xB HB.out))); have n1_ := aM (below_step (xB HB.out) hb); clear HB; have HO638 := n0_; have HB := n1_; clear n0_ n1_; (try clear hb); (try clear hb2); (try clear hk); (try clear hi); (try clear ho0)))
                  go_ret3
                  exact ⟨_, by first | rfl | (simp [errW_none, errW_some] <;> rfl) | (simp only [← hji22, ← hji25, ← hji30]; first | rfl | (simp [errW_none, errW_some] <;> rfl)) | (simp [*, errW_none, errW_some] <;> rfl), by first | exact Kd.R_nil _ _ _ _ _ | exact Kd.N_nil _ _ _ _ _ | exact Kd.V_nil _ _ _ _ _ | exact Kd.Q_nil _ _ _ _ _ | exact Kd.S_nil _ _ _ _ _, xB HB.out⟩
                ·
                 rw [if_neg c33] at H
                 exact absurd H (by simp)
               ·
                rw [if_neg c32] at H
                exact absurd H (by simp)
              ·
               rw [if_neg c31] at H
               exact absurd H (by simp)
            ·
             rw [if_neg c27] at H
             exact absurd H (by simp)
           ·
            rw [if_neg c26] at H
            exact absurd H (by simp)
          ·
           rw [if_neg c24] at H
           exact absurd H (by simp)
         ·
          rw [if_neg c23] at H
          exact absurd H (by simp)
     ·
      rw [if_neg c8] at H
      exact absurd H (by simp)
    ·
     rw [if_neg c7] at H
     exact absurd H (by simp)
end Go.Proofs.Ythaifibhflfpkaa.Q
end
