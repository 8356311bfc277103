/- A part of the claim's own texts: words, walks and plain laws. -/
import Derived.Test.YthaifibhflfpkaaTb2
import Derived.Test.YthaifibhflfpkaaTb4
import Derived.Test.YthaifibhflfpkaaTb6
namespace Go.Proofs.YthaifibhflfpkaaX
abbrev b35_ : Array Bool := #[false, false, false, false, false, false, false, false, false, false, false, false, false, false, false, false, false, false, false, false, false, false]
abbrev b36_ : Array Bool := #[true, false, false, false, false, false, false, false, false, false, false, false, false, false, false, false, false, false, false, false, false, false]
abbrev b37_ : Array Bool := #[true, true, false, false, false, false, false, false, false, false, false, false, false, false, false, false, false, false, false, false, false, false]
abbrev b38_ : Array Bool := #[true, true, true, false, false, false, false, false, false, false, false, false, false, false, false, false, false, false, false, false, false, false]
abbrev b39_ : Array Bool := #[true, true, true, false, true, false, false, false, false, false, false, false, false, false, false, false, false, false, false, false, false, false]
abbrev b40_ : Array Bool := #[true, true, true, false, true, true, false, false, false, false, false, false, false, false, false, false, false, false, false, false, false, false]
abbrev b41_ : Array Bool := #[true, true, true, false, true, true, true, false, false, false, false, false, false, false, false, false, false, false, false, false, false, false]
abbrev b42_ : Array Bool := #[true, true, true, false, true, true, true, true, false, false, false, false, false, false, false, false, false, false, false, false, false, false]
abbrev b43_ : Array Bool := #[true, true, true, false, true, true, true, true, false, true, false, false, false, false, false, false, false, false, false, false, false, false]
abbrev b44_ : Array Bool := #[true, true, true, false, true, true, true, true, false, true, true, false, false, false, false, false, false, false, false, false, false, false]
abbrev b45_ : Array Bool := #[true, true, true, false, true, true, true, true, false, true, true, false, true, false, false, false, false, false, false, false, false, false]
abbrev b46_ : Array Bool := #[true, true, true, false, true, true, true, true, false, true, true, false, true, true, false, false, false, false, false, false, false, false]
abbrev b47_ : Array Bool := #[true, true, true, false, true, true, true, true, false, true, true, false, true, true, true, false, false, false, false, false, false, false]
abbrev b48_ : Array Bool := #[true, true, true, false, true, true, true, true, false, true, true, false, true, true, true, false, false, true, false, false, false, false]
abbrev b49_ : Array Bool := #[true, true, true, true, true, true, true, true, false, true, true, false, true, true, true, false, false, true, false, false, false, false]
abbrev b50_ : Array Bool := #[true, true, true, true, true, true, true, true, true, true, true, false, true, true, true, false, false, true, false, false, false, false]
abbrev b51_ : Array Bool := #[true, true, true, true, true, true, true, true, true, true, true, true, true, true, true, false, false, true, false, false, false, false]
abbrev b52_ : Array Bool := #[true, true, true, true, true, true, true, true, true, true, true, true, true, true, true, true, false, true, false, false, false, false]
abbrev b53_ : Array Bool := #[true, true, true, true, true, true, true, true, true, true, true, true, true, true, true, true, true, true, false, false, false, false]
abbrev b54_ : Array Bool := #[true, true, true, true, true, true, true, true, true, true, true, true, true, true, true, true, true, true, true, false, false, false]
abbrev b55_ : Array Bool := #[true, true, true, true, true, true, true, true, true, true, true, true, true, true, true, true, true, true, true, true, false, false]
abbrev b56_ : Array Bool := #[true, true, true, true, true, true, true, true, true, true, true, true, true, true, true, true, true, true, true, true, true, false]
abbrev b57_ : Array Bool := #[true, true, true, true, true, true, true, true, true, true, true, true, true, true, true, true, true, true, true, true, true, true]
end Go.Proofs.YthaifibhflfpkaaX
section
namespace Go.Proofs.Ythaifibhflfpkaa.Q
open Go.RowKit Go.Proofs.YthaifibhflfpkaaW.PrintWords Go.Proofs.YthaifibhflfpkaaW.PrintLast Go.Proofs.YthaifibhflfpkaaW.PrintMore Go.Proofs.YthaifibhflfpkaaX
attribute [local go_sem] max2_int min2_int max_two min_two max_three min_three max_four min_four   -- for this text's walks alone
set_option linter.unusedVariables false
set_option linter.unusedSimpArgs false
def num_Take.l0 : Nat → Int → Int → List Int → Int → Int → Option (Int × Int × Int)
 | 0, _, _, _, _, _ => none
 | k + 1, x2, x5, x34, x35, x36 => if x36 < x35 then (if 0 ≤ x36 then (if x36 < (x34.length : Int) then (if 0 ≤ (wrap64 (8 * x36)) then (num_Take.l0 k (Go.bits .or .u64 x2 (shl .u64 (IntKind.u64.wrap (rd x34 x36)) (wrap64 (8 * x36)))) x5 x34 x35 (wrap64 (x36 + 1))) else (none)) else (none)) else (none)) else (if x2 ≤ 247 then (some (0, 0, 2)) else ((num_size.f x2).bind fun t609 => (if t609 < x5 then (some (0, 0, 2)) else (some (x2, wrap64 (1 + x5), 0)))))
def num_Take.f (k : Nat) (l0 : List Int) : Option (Int × Int × Int) := if (l0.length : Int) = 0 then (some (0, 0, 3)) else (if 0 < (l0.length : Int) then (if (rd l0 0) ≤ 247 then (some (IntKind.u64.wrap (rd l0 0), 1, 0)) else (if (wrap64 ((wrap64 (rd l0 0)) - 247)) > (wrap64 ((l0.length : Int) - 1)) then (some (0, 0, 3)) else (if 1 ≤ (wrap64 (1 + (wrap64 ((wrap64 (rd l0 0)) - 247)))) then (if (wrap64 (1 + (wrap64 ((wrap64 (rd l0 0)) - 247)))) ≤ (l0.length : Int) then ((some ((l0.take ((wrap64 (1 + (wrap64 ((wrap64 (rd l0 0)) - 247)))) : Int).toNat).drop 1 : List Int)).bind fun y604 => (num_Take.l0 k 0 (wrap64 ((wrap64 (rd l0 0)) - 247)) y604 (y604.length : Int) 0)) else (none)) else (none)))) else (none))
set_option maxHeartbeats 8000000 in
set_option maxRecDepth 100000 in
theorem num_Take.calls (k : Nat) (A0 : Option Addr) (c0 : Nat) (l0 : List Int) (r1 : Int) (r2 : Int) (r3 : Int) (w : World) (hr0 : Kd.C (Kd.int .u8) w A0 l0.length l0) (hc0 : l0.length ≤ c0) (h : num_Take.f k l0 = some (r1, r2, r3)) :
  Calls Try.prog 58 #[.slice A0 l0.length c0] w fun e w' => e = .returned (.tuple #[.int .u64 r1, .int .i64 r2, .int .i64 r3]) ∧ Drawn0 w w' := by
 have HR0 := aM hr0
 have HC0 := aM hc0
 clear hr0 hc0
 have H : (if (l0.length : Int) = 0 then (some (0, 0, 3)) else (if 0 < (l0.length : Int) then (if (rd l0 0) ≤ 247 then (some (IntKind.u64.wrap (rd l0 0), 1, 0)) else (if (wrap64 ((wrap64 (rd l0 0)) - 247)) > (wrap64 ((l0.length : Int) - 1)) then (some (0, 0, 3)) else (if 1 ≤ (wrap64 (1 + (wrap64 ((wrap64 (rd l0 0)) - 247)))) then (if (wrap64 (1 + (wrap64 ((wrap64 (rd l0 0)) - 247)))) ≤ (l0.length : Int) then ((some ((l0.take ((wrap64 (1 + (wrap64 ((wrap64 (rd l0 0)) - 247)))) : Int).toNat).drop 1 : List Int)).bind fun y604 => (num_Take.l0 k 0 (wrap64 ((wrap64 (rd l0 0)) - 247)) y604 (y604.length : Int) 0)) else (none)) else (none)))) else (none))) = some (r1, r2, r3) := h
 clear h
 by_cases c2 : (l0.length : Int) = 0
 ·
  rw [if_pos c2] at H
  have c2b0 : ((l0.length : Int) == 0) = true := beq_iff_eq.mpr c2
  have c2b1 : ((l0.length : Int) != 0) = false := bne_eq_false_iff_eq.mpr c2
  clear c2
  simp only [Option.some.injEq, Prod.mk.injEq] at H
  obtain ⟨rfl, rfl, rfl⟩ := H
  go_enter Try.func58, Try.ntmps58
  go_wp2
  go_ret3
  exact ⟨by first | rfl | (simp; done) | (simp [*]; done), by repeat (first | exact Drawn0.refl _ | apply Drawn0.step)⟩
 ·
  rw [if_neg c2] at H
  have c2b0 : ((l0.length : Int) == 0) = false := beq_eq_false_iff_ne.mpr c2
  have c2b1 : ((l0.length : Int) != 0) = true := bne_iff_ne.mpr c2
  have c2b2 : ¬ (l0 = []) := fun h_ => c2 (by rw [h_]; rfl)
  by_cases c3 : 0 < (l0.length : Int)
  ·
   rw [if_pos c3] at H
   have c3b0 : decide (0 < (l0.length : Int)) = true := decide_eq_true c3
   have c3b1 : decide (0 < l0.length) = true := decide_eq_true (by omega)
   clear c3
   by_cases c4 : (rd l0 0) ≤ 247
   ·
    rw [if_pos c4] at H
    have c4b0 : decide ((rd l0 0) ≤ 247) = true := decide_eq_true c4
    clear c4
    simp only [Option.some.injEq, Prod.mk.injEq] at H
    obtain ⟨rfl, rfl, rfl⟩ := H
    have p601 : 0 ≤ (0 : Int) := (by omega)
    have q601 : 0 < (l0.length : Int) := of_decide_eq_true (by first | (with_reducible assumption) | assumption)
    obtain ⟨ad601, e601, hx601_0⟩ := Kd.at_int HR0.out 0 p601 q601
    cases e601
    have qi601 : (0 < l0.length) = True := eq_true (by omega)
    (try rw [show ((0 : Int)).toNat = 0 from rfl] at hx601_0)
    (try rw [Addr.add_zero'] at hx601_0)
    replace p601 := eq_true p601
    replace q601 := eq_true q601
    have p602 : 0 ≤ (0 : Int) := (by omega)
    have q602 : 0 < (l0.length : Int) := of_decide_eq_true (by first | (with_reducible assumption) | assumption)
    obtain ⟨ad602, e602, hx602_0⟩ := Kd.at_int HR0.out 0 p602 q602
    obtain rfl : ad601 = ad602 := (by injection e602)
    have qi602 : (0 < l0.length) = True := eq_true (by omega)
    (try rw [show ((0 : Int)).toNat = 0 from rfl] at hx602_0)
    (try rw [Addr.add_zero'] at hx602_0)
    replace p602 := eq_true p602
    replace q602 := eq_true q602
    go_enter Try.func58, Try.ntmps58
    go_wp2
    go_ret3
    exact ⟨by first | rfl | (simp; done) | (simp [*]; done), by repeat (first | exact Drawn0.refl _ | apply Drawn0.step)⟩
   ·
    rw [if_neg c4] at H
    have c4b0 : decide ((rd l0 0) ≤ 247) = false := decide_eq_false c4
    clear c4
    by_cases c5 : (wrap64 ((wrap64 (rd l0 0)) - 247)) > (wrap64 ((l0.length : Int) - 1))
    ·
     rw [if_pos c5] at H
     have c5b0 : decide ((wrap64 ((l0.length : Int) - 1)) < (wrap64 ((wrap64 (rd l0 0)) - 247))) = true := decide_eq_true c5
     clear c5
     simp only [Option.some.injEq, Prod.mk.injEq] at H
     obtain ⟨rfl, rfl, rfl⟩ := H
     have p601 : 0 ≤ (0 : Int) := (by omega)
     have q601 : 0 < (l0.length : Int) := of_decide_eq_true (by first | (with_reducible assumption) | assumption)
     obtain ⟨ad601, e601, hx601_0⟩ := Kd.at_int HR0.out 0 p601 q601
     cases e601
     have qi601 : (0 < l0.length) = True := eq_true (by omega)
     (try rw [show ((0 : Int)).toNat = 0 from rfl] at hx601_0)
     (try rw [Addr.add_zero'] at hx601_0)
     replace p601 := eq_true p601
     replace q601 := eq_true q601
     have p603 : 0 ≤ (0 : Int) := (by omega)
     have q603 : 0 < (l0.length : Int) := of_decide_eq_true (by first | (with_reducible assumption) | assumption)
     obtain ⟨ad603, e603, hx603_0⟩ := Kd.at_int HR0.out 0 p603 q603
     obtain rfl : ad601 = ad603 := (by injection e603)
     have qi603 : (0 < l0.length) = True := eq_true (by omega)
     (try rw [show ((0 : Int)).toNat = 0 from rfl] at hx603_0)
     (try rw [Addr.add_zero'] at hx603_0)
     replace p603 := eq_true p603
     replace q603 := eq_true q603
     go_enter Try.func58, Try.ntmps58
     go_wp2
     go_ret3
     exact ⟨by first | rfl | (simp; done) | (simp [*]; done), by repeat (first | exact Drawn0.refl _ | apply Drawn0.step)⟩
    ·
     rw [if_neg c5] at H
     have c5b0 : decide ((wrap64 ((l0.length : Int) - 1)) < (wrap64 ((wrap64 (rd l0 0)) - 247))) = false := decide_eq_false c5
     clear c5
     by_cases c6 : 1 ≤ (wrap64 (1 + (wrap64 ((wrap64 (rd l0 0)) - 247))))
     ·
      rw [if_pos c6] at H
      have c6b0 := eq_true c6
      have c6b1 : decide (1 ≤ (wrap64 (1 + (wrap64 ((wrap64 (rd l0 0)) - 247))))) = true := decide_eq_true c6
      by_cases c7 : (wrap64 (1 + (wrap64 ((wrap64 (rd l0 0)) - 247)))) ≤ (l0.length : Int)
      ·
       rw [if_pos c7] at H
       have c7b0 := eq_true c7
       have c7b1 : decide ((wrap64 (1 + (wrap64 ((wrap64 (rd l0 0)) - 247)))) ≤ (l0.length : Int)) = true := decide_eq_true c7
       obtain ⟨y604, hy604⟩ : ∃ y_ : List Int, y_ = ((l0.take ((wrap64 (1 + (wrap64 ((wrap64 (rd l0 0)) - 247)))) : Int).toNat).drop 1) := ⟨_, rfl⟩
       replace H : (num_Take.l0 k 0 (wrap64 ((wrap64 (rd l0 0)) - 247)) y604 (y604.length : Int) 0) = some (r1, r2, r3) := by first | (rw [hy604]; with_reducible exact H) | (have H2_ := (Option.bind_some _ _).symm.trans H; rw [hy604]; with_reducible exact H2_) | (have H2_ := (Option.bind_some _ _).symm.trans H; with_reducible exact H2_) | with_reducible exact H | (rw [hy604]; exact H) | exact H
       have Ny604 := aM hy604
       clear hy604
       have H' := aM H
       clear H
       have p601 : 0 ≤ (0 : Int) := (by omega)
       have q601 : 0 < (l0.length : Int) := of_decide_eq_true (by first | (with_reducible assumption) | assumption)
       obtain ⟨ad601, e601, hx601_0⟩ := Kd.at_int HR0.out 0 p601 q601
       cases e601
       have qi601 : (0 < l0.length) = True := eq_true (by omega)
       (try rw [show ((0 : Int)).toNat = 0 from rfl] at hx601_0)
       (try rw [Addr.add_zero'] at hx601_0)
       replace p601 := eq_true p601
       replace q601 := eq_true q601
       have p603 : 0 ≤ (0 : Int) := (by omega)
       have q603 : 0 < (l0.length : Int) := of_decide_eq_true (by first | (with_reducible assumption) | assumption)
       obtain ⟨ad603, e603, hx603_0⟩ := Kd.at_int HR0.out 0 p603 q603
       obtain rfl : ad601 = ad603 := (by injection e603)
       have qi603 : (0 < l0.length) = True := eq_true (by omega)
       (try rw [show ((0 : Int)).toNat = 0 from rfl] at hx603_0)
       (try rw [Addr.add_zero'] at hx603_0)
       replace p603 := eq_true p603
       replace q603 := eq_true q603
       have q8 : ((wrap64 (1 + (wrap64 ((wrap64 (rd l0 0)) - 247)))) : Int) ≤ ((l0.length : Int) : Int) := of_decide_eq_true (by first | (with_reducible assumption) | assumption)
       obtain ⟨i08, hi08, _, hsz8, _⟩ := info_parts info5
       have hroom8 : l0.length ≤ c0 := HC0.out
       have hC8 : Kd.C (Kd.int .u8) _ (some ad601) l0.length l0 := HR0.out
       have ql8 : (1 : Int) ≤ ((wrap64 (1 + (wrap64 ((wrap64 (rd l0 0)) - 247)))) : Int) := of_decide_eq_true (by first | (with_reducible assumption) | assumption)
       have hcut8 := cut_mid (P := Try.prog) 22 5 .i64 .i64 Try.underlying22 hi08 1 hsz8 (some ad601) l0.length c0 1 (wrap64 (1 + (wrap64 ((wrap64 (rd l0 0)) - 247)))) (by omega) ql8 q8 hroom8
       have hr8 := Kd.C_mid (lo := (1 : Int).toNat) (hi := ((wrap64 (1 + (wrap64 ((wrap64 (rd l0 0)) - 247)))) : Int).toNat) (c := c0) hC8 (by omega) (by omega) hroom8
       obtain ⟨A8, hA8⟩ : ∃ A_z, A_z = (if c0 = (1 : Int).toNat then (some ad601) else ((some ad601) : Option Addr).map (·.add ((1 : Int).toNat * 1))) := ⟨_, rfl⟩
       obtain ⟨c8, hc8⟩ : ∃ c_z, c_z = c0 - (1 : Int).toNat := ⟨_, rfl⟩
       have hy8 : y604.length = ((wrap64 (1 + (wrap64 ((wrap64 (rd l0 0)) - 247)))) : Int).toNat - (1 : Int).toNat := (by rw [Ny604.out, List.length_drop, List.length_take] <;> omega)
       rw [show ((l0).take ((wrap64 (1 + (wrap64 ((wrap64 (rd l0 0)) - 247)))) : Int).toNat).drop (1 : Int).toNat = y604 from Ny604.out.symm] at hr8
       replace hr8 : Kd.C (Kd.int .u8) _ A8 y604.length y604 := (by rw [hA8]; exact hr8)
       rw [← hy8, ← hA8, ← hc8] at hcut8
       have HR607 := aM hr8
       have HC607 := aM (show y604.length ≤ c8 from by rw [hy8, hc8]; exact Nat.sub_le_sub_right (Nat.le_trans (by omega) hroom8) _)
       clear hr8 hC8 hroom8 hi08 hsz8 hc8
       have KY8 := aM hy8
       have KA8 := aM hA8
       clear hy8 hA8
       replace q8 := eq_true q8
       go_enter Try.func58, Try.ntmps58
       go_wp2
       go_loopg [2, 36] k (fun kq v2 v36 w' => ∃ (x2_1 : Int) (x36_1 : Int), v2 = .int .u64 x2_1 ∧ v36 = .int .i64 x36_1 ∧ Aside0 (num_Take.l0 kq x2_1 (wrap64 ((wrap64 (rd l0 0)) - 247)) y604 (y604.length : Int) x36_1 = some (r1, r2, r3)) ∧ Aside0 (kq ≤ k) ∧ Drawn0 w w')
       case atStart => exact ⟨(0), (0), (by first | rfl | (simp; done) | (simp [*]; done)), (by first | rfl | (simp; done) | (simp [*]; done)), H', ⟨Nat.le_refl _⟩, by repeat (first | exact Drawn0.refl _ | apply Drawn0.step)⟩
       case round =>
        clear H'
        try clear c2
        try clear c2b0
        try clear c2b1
        try clear c2b2
        try clear p2
        try clear c3
        try clear c3b0
        try clear c3b1
        try clear c4
        try clear c4b0
        try clear c5
        try clear c5b0
        try clear c6
        try clear c6b0
        try clear c6b1
        try clear p6
        try clear q6
        try clear hx6
        try clear qi6
        try clear c7
        try clear c7b0
        try clear c7b1
        try clear c8
        try clear q8
        try clear hx601_0
        try clear hx602_0
        try clear hx603_0
        try clear p601
        try clear p602
        try clear p603
        try clear q601
        try clear q602
        try clear q603
        try clear q8
        obtain ⟨x2_1, x36_1, rfl, rfl, HA, HK1, ⟨m1, rfl⟩⟩ := hrel
        cases gk with
        | zero => exact absurd HA.out (by simp [num_Take.l0])
        | succ k1 =>
         have H := HA.out
         clear HA
         simp only [num_Take.l0] at H
         by_cases c9 : x36_1 < (y604.length : Int)
         ·
          rw [if_pos c9] at H
          have c9b0 : decide (x36_1 < (y604.length : Int)) = true := decide_eq_true c9
          clear c9
          by_cases c10 : 0 ≤ x36_1
          ·
           rw [if_pos c10] at H
           have c10b0 : decide (0 ≤ x36_1) = true := decide_eq_true c10
           clear c10
           by_cases c11 : x36_1 < (y604.length : Int)
           ·
            rw [if_pos c11] at H
            have c11b0 : decide (x36_1 < (y604.length : Int)) = true := decide_eq_true c11
            clear c11
            obtain ⟨ji12, hji12⟩ : ∃ j_ : Int, (wrap64 (8 * x36_1)) = j_ := ⟨_, rfl⟩
            replace H : (if 0 ≤ (ji12) then (num_Take.l0 k1 (Go.bits .or .u64 x2_1 (shl .u64 (IntKind.u64.wrap (rd y604 x36_1)) (ji12))) (wrap64 ((wrap64 (rd l0 0)) - 247)) y604 (y604.length : Int) (wrap64 (x36_1 + 1))) else (none)) = some (r1, r2, r3) := by first | (rw [hji12] at H; exact H) | (simp only [hji12] at H ⊢; exact H)
            have hji12w : (IntKind.i64.wrap (8 * x36_1)) = ji12 := (i64_w _).trans hji12
            by_cases c13 : 0 ≤ (ji12)
            ·
             rw [if_pos c13] at H
             have c13b0 := eq_true c13
             have c13b1 : decide (0 ≤ (ji12)) = true := decide_eq_true c13
             clear c13
             obtain ⟨ji14, hji14⟩ : ∃ j_ : Int, (shl .u64 (IntKind.u64.wrap (rd y604 x36_1)) (ji12)) = j_ := ⟨_, rfl⟩
             replace H : (num_Take.l0 k1 (Go.bits .or .u64 x2_1 (ji14)) (wrap64 ((wrap64 (rd l0 0)) - 247)) y604 (y604.length : Int) (wrap64 (x36_1 + 1))) = some (r1, r2, r3) := by first | (rw [hji14] at H; exact H) | (simp only [hji14] at H ⊢; exact H)
             have hji14_ : (IntKind.u64.wrap ((IntKind.u64.wrap (rd y604 x36_1)) * 2 ^ min (ji12).toNat 64)) = ji14 := hji14
             have hji14z : (ji12) ≤ 64 → (IntKind.u64.wrap ((IntKind.u64.wrap (rd y604 x36_1)) * 2 ^ (ji12).toNat)) = ji14 := shl_small hji14
             have H' := aM H
             clear H
             have p608 : 0 ≤ (x36_1 : Int) := of_decide_eq_true (by first | (with_reducible assumption) | assumption)
             have q608 : x36_1 < (y604.length : Int) := of_decide_eq_true (by first | (with_reducible assumption) | assumption)
             obtain ⟨ad608, e608, hx608_0⟩ := Kd.at_int HR607.out x36_1 p608 q608
             cases e608
             replace p608 := eq_true p608
             replace q608 := eq_true q608
             go_wp2
             go_roundg k1
             case measure => have := HK1.out; omega
             case rel => exact ⟨(Go.bits .or .u64 x2_1 (ji14)), (wrap64 (x36_1 + 1)), (by first | rfl | (simp; done) | (simp only [← hji14] <;> (first | rfl | simp)) | (simp [*]; done)), (by first | rfl | (simp; done) | (simp [*]; done)), H', ⟨by have := HK1.out; omega⟩, by repeat (first | exact Drawn0.refl _ | apply Drawn0.step)⟩
            ·
             rw [if_neg c13] at H
             exact absurd H (by simp)
           ·
            rw [if_neg c11] at H
            exact absurd H (by simp)
          ·
           rw [if_neg c10] at H
           exact absurd H (by simp)
         ·
          rw [if_neg c9] at H
          have c9b0 : decide (x36_1 < (y604.length : Int)) = false := decide_eq_false c9
          clear c9
          by_cases c15 : x2_1 ≤ 247
          ·
           rw [if_pos c15] at H
           have c15b0 : decide (x2_1 ≤ 247) = true := decide_eq_true c15
           clear c15
           simp only [Option.some.injEq, Prod.mk.injEq] at H
           obtain ⟨rfl, rfl, rfl⟩ := H
           go_wp2
           go_ret3
           exact ⟨by first | rfl | (simp; done) | (simp [*]; done), by repeat (first | exact Drawn0.refl _ | apply Drawn0.step)⟩
          ·
           rw [if_neg c15] at H
           have c15b0 : decide (x2_1 ≤ 247) = false := decide_eq_false c15
           clear c15
           replace H := Option.bind_eq_some_iff.mp H
           obtain ⟨t609, A160, H⟩ := H
           replace H : (if t609 < (wrap64 ((wrap64 (rd l0 0)) - 247)) then (some (0, 0, 2)) else (some (x2_1, wrap64 (1 + (wrap64 ((wrap64 (rd l0 0)) - 247))), 0))) = some (r1, r2, r3) := H
           have A16 := aM A160
           clear A160
           by_cases c17 : t609 < (wrap64 ((wrap64 (rd l0 0)) - 247))
           ·
            rw [if_pos c17] at H
            have c17b0 : decide (t609 < (wrap64 ((wrap64 (rd l0 0)) - 247))) = true := decide_eq_true c17
            clear c17
            simp only [Option.some.injEq, Prod.mk.injEq] at H
            obtain ⟨rfl, rfl, rfl⟩ := H
            go_wp2_with (first | (go_at_call 74; (with_reducible refine (num_size.calls x2_1 t609 _ A16.out).mono ?_); rintro e w' ⟨rfl, ⟨nd, rfl⟩⟩))
            go_ret3
            exact ⟨by first | rfl | (simp; done) | (simp [*]; done), by repeat (first | exact Drawn0.refl _ | apply Drawn0.step)⟩
           ·
            rw [if_neg c17] at H
            have c17b0 : decide (t609 < (wrap64 ((wrap64 (rd l0 0)) - 247))) = false := decide_eq_false c17
            clear c17
            simp only [Option.some.injEq, Prod.mk.injEq] at H
            obtain ⟨rfl, rfl, rfl⟩ := H
            go_wp2_with (first | (go_at_call 74; (with_reducible refine (num_size.calls x2_1 t609 _ A16.out).mono ?_); rintro e w' ⟨rfl, ⟨nd, rfl⟩⟩))
            go_ret3
            exact ⟨by first | rfl | (simp; done) | (simp [*]; done), by repeat (first | exact Drawn0.refl _ | apply Drawn0.step)⟩
      ·
       rw [if_neg c7] at H
       exact absurd H (by simp)
     ·
      rw [if_neg c6] at H
      exact absurd H (by simp)
  ·
   rw [if_neg c3] at H
   exact absurd H (by simp)
def num_TakeRow.f (k : Nat) (l0 : List Int) (a1 : Int) : Option (List Int × Int × Int) := if a1 < 0 then (some (([] : List Int), 0, 1)) else ((num_Take.f k l0).bind fun bt681 => (if bt681.2.2 = 0 then (if bt681.1 > (IntKind.u64.wrap (a1)) then (some (([] : List Int), 0, 5)) else (if (wrap64 (bt681.1)) > (wrap64 ((l0.length : Int) - bt681.2.1)) then (some (([] : List Int), 0, 3)) else (if 0 ≤ bt681.2.1 then (if bt681.2.1 ≤ (wrap64 (bt681.2.1 + (wrap64 (bt681.1)))) then (if (wrap64 (bt681.2.1 + (wrap64 (bt681.1)))) ≤ (l0.length : Int) then ((slices_Clone_byte_byte.f ((l0.take ((wrap64 (bt681.2.1 + (wrap64 (bt681.1)))) : Int).toNat).drop (bt681.2.1 : Int).toNat)).bind fun t688 => (some (t688, wrap64 (bt681.2.1 + (wrap64 (bt681.1))), 0))) else (none)) else (none)) else (none)))) else (some (([] : List Int), 0, bt681.2.2))))
set_option maxHeartbeats 8000000 in
set_option maxRecDepth 100000 in
theorem num_TakeRow.calls (k : Nat) (A0 : Option Addr) (c0 : Nat) (l0 : List Int) (a1 : Int) (r1 : List Int) (r2 : Int) (r3 : Int) (w : World) (hr0 : Kd.C (Kd.int .u8) w A0 l0.length l0) (hc0 : l0.length ≤ c0) (h : num_TakeRow.f k l0 a1 = some (r1, r2, r3)) :
  Calls Try.prog 32 #[.slice A0 l0.length c0, .int .i64 a1] w fun e w' => ∃ v0_ : Value, e = .returned (.tuple #[v0_, .int .i64 r2, .int .i64 r3]) ∧ Kd.R (Kd.int .u8) 5 w' w.heap.size (fun _ => True) v0_ r1 ∧ Below w.heap.size w w' := by
 have HR0 := aM hr0
 have HC0 := aM hc0
 clear hr0 hc0
 have HB := aM (Below.refl w.heap.size w)
 have H : (if a1 < 0 then (some (([] : List Int), 0, 1)) else ((num_Take.f k l0).bind fun bt681 => (if bt681.2.2 = 0 then (if bt681.1 > (IntKind.u64.wrap (a1)) then (some (([] : List Int), 0, 5)) else (if (wrap64 (bt681.1)) > (wrap64 ((l0.length : Int) - bt681.2.1)) then (some (([] : List Int), 0, 3)) else (if 0 ≤ bt681.2.1 then (if bt681.2.1 ≤ (wrap64 (bt681.2.1 + (wrap64 (bt681.1)))) then (if (wrap64 (bt681.2.1 + (wrap64 (bt681.1)))) ≤ (l0.length : Int) then ((slices_Clone_byte_byte.f ((l0.take ((wrap64 (bt681.2.1 + (wrap64 (bt681.1)))) : Int).toNat).drop (bt681.2.1 : Int).toNat)).bind fun t688 => (some (t688, wrap64 (bt681.2.1 + (wrap64 (bt681.1))), 0))) else (none)) else (none)) else (none)))) else (some (([] : List Int), 0, bt681.2.2))))) = some (r1, r2, r3) := h
 clear h
 by_cases c3 : a1 < 0
 ·
  rw [if_pos c3] at H
  have c3b0 : decide (a1 < 0) = true := decide_eq_true c3
  clear c3
  simp only [Option.some.injEq, Prod.mk.injEq] at H
  obtain ⟨rfl, rfl, rfl⟩ := H
  go_enter Try.func32, Try.ntmps32
  go_wp2
  go_ret3
  exact ⟨_, by first | rfl | (simp [errW_none, errW_some] <;> rfl) | (simp [*, errW_none, errW_some] <;> rfl), by first | exact Kd.R_nil _ _ _ _ _ | exact Kd.N_nil _ _ _ _ _ | exact Kd.V_nil _ _ _ _ _ | exact Kd.Q_nil _ _ _ _ _ | exact Kd.S_nil _ _ _ _ _, xB HB.out⟩
 ·
  rw [if_neg c3] at H
  have c3b0 : decide (a1 < 0) = false := decide_eq_false c3
  clear c3
  replace H := Option.bind_eq_some_iff.mp H
  obtain ⟨⟨t681, t682, t683⟩, A40, H⟩ := H
  replace H : (if t683 = 0 then (if t681 > (IntKind.u64.wrap (a1)) then (some (([] : List Int), 0, 5)) else (if (wrap64 (t681)) > (wrap64 ((l0.length : Int) - t682)) then (some (([] : List Int), 0, 3)) else (if 0 ≤ t682 then (if t682 ≤ (wrap64 (t682 + (wrap64 (t681)))) then (if (wrap64 (t682 + (wrap64 (t681)))) ≤ (l0.length : Int) then ((slices_Clone_byte_byte.f ((l0.take ((wrap64 (t682 + (wrap64 (t681)))) : Int).toNat).drop (t682 : Int).toNat)).bind fun t688 => (some (t688, wrap64 (t682 + (wrap64 (t681))), 0))) else (none)) else (none)) else (none)))) else (some (([] : List Int), 0, t683))) = some (r1, r2, r3) := H
  have A4 := aM A40
  clear A40
  by_cases c5 : t683 = 0
  ·
   rw [if_pos c5] at H
   have c5b0 : (t683 == 0) = true := beq_iff_eq.mpr c5
   have c5b1 : (t683 != 0) = false := bne_eq_false_iff_eq.mpr c5
   clear c5
   by_cases c6 : t681 > (IntKind.u64.wrap (a1))
   ·
    rw [if_pos c6] at H
    have c6b0 : decide ((IntKind.u64.wrap (a1)) < t681) = true := decide_eq_true c6
    clear c6
    simp only [Option.some.injEq, Prod.mk.injEq] at H
    obtain ⟨rfl, rfl, rfl⟩ := H
    go_enter Try.func32, Try.ntmps32
    go_wp2_with (first | ((with_reducible refine gate_callee (f := 58) rfl ?_); refine goesL_ (some 14) rfl rfl Try.func58 (by kernel_rfl) rfl #[.slice A0 l0.length c0] rfl (by (try simp only [List.map_toArray, List.map_cons, List.map_nil]); first | done | rfl | (simp only [List.length_drop, List.length_take]; rfl)) ?_; (with_reducible refine (num_Take.calls k _ _ l0 t681 t682 t683 _ ?side1 ?side2 A4.out).mono ?_); (case side1 => exact xC HR0.out); (case side2 => exact HC0.out); rintro e w' ⟨rfl, ⟨nd, rfl⟩⟩; refine ⟨_, rfl, ?_⟩))
    go_ret3
    exact ⟨_, by first | rfl | (simp [errW_none, errW_some] <;> rfl) | (simp [*, errW_none, errW_some] <;> rfl), by first | exact Kd.R_nil _ _ _ _ _ | exact Kd.N_nil _ _ _ _ _ | exact Kd.V_nil _ _ _ _ _ | exact Kd.Q_nil _ _ _ _ _ | exact Kd.S_nil _ _ _ _ _, xB HB.out⟩
   ·
    rw [if_neg c6] at H
    have c6b0 : decide ((IntKind.u64.wrap (a1)) < t681) = false := decide_eq_false c6
    clear c6
    by_cases c7 : (wrap64 (t681)) > (wrap64 ((l0.length : Int) - t682))
    ·
     rw [if_pos c7] at H
     have c7b0 : decide ((wrap64 ((l0.length : Int) - t682)) < (wrap64 (t681))) = true := decide_eq_true c7
     clear c7
     simp only [Option.some.injEq, Prod.mk.injEq] at H
     obtain ⟨rfl, rfl, rfl⟩ := H
     go_enter Try.func32, Try.ntmps32
     go_wp2_with (first | ((with_reducible refine gate_callee (f := 58) rfl ?_); refine goesL_ (some 14) rfl rfl Try.func58 (by kernel_rfl) rfl #[.slice A0 l0.length c0] rfl (by (try simp only [List.map_toArray, List.map_cons, List.map_nil]); first | done | rfl | (simp only [List.length_drop, List.length_take]; rfl)) ?_; (with_reducible refine (num_Take.calls k _ _ l0 t681 t682 t683 _ ?side1 ?side2 A4.out).mono ?_); (case side1 => exact xC HR0.out); (case side2 => exact HC0.out); rintro e w' ⟨rfl, ⟨nd, rfl⟩⟩; refine ⟨_, rfl, ?_⟩))
     go_ret3
     exact ⟨_, by first | rfl | (simp [errW_none, errW_some] <;> rfl) | (simp [*, errW_none, errW_some] <;> rfl), by first | exact Kd.R_nil _ _ _ _ _ | exact Kd.N_nil _ _ _ _ _ | exact Kd.V_nil _ _ _ _ _ | exact Kd.Q_nil _ _ _ _ _ | exact Kd.S_nil _ _ _ _ _, xB HB.out⟩
    ·
     rw [if_neg c7] at H
     have c7b0 : decide ((wrap64 ((l0.length : Int) - t682)) < (wrap64 (t681))) = false := decide_eq_false c7
     clear c7
     by_cases c8 : 0 ≤ t682
     ·
      rw [if_pos c8] at H
      have c8b0 := eq_true c8
      have c8b1 : decide (0 ≤ t682) = true := decide_eq_true c8
      clear c8
      by_cases c9 : t682 ≤ (wrap64 (t682 + (wrap64 (t681))))
      ·
       rw [if_pos c9] at H
       have c9b0 := eq_true c9
       have c9b1 : decide (t682 ≤ (wrap64 (t682 + (wrap64 (t681))))) = true := decide_eq_true c9
       by_cases c10 : (wrap64 (t682 + (wrap64 (t681)))) ≤ (l0.length : Int)
       ·
        rw [if_pos c10] at H
        have c10b0 := eq_true c10
        have c10b1 : decide ((wrap64 (t682 + (wrap64 (t681)))) ≤ (l0.length : Int)) = true := decide_eq_true c10
        obtain ⟨y684, hy684⟩ : ∃ y_ : List Int, y_ = ((l0.take ((wrap64 (t682 + (wrap64 (t681)))) : Int).toNat).drop (t682 : Int).toNat) := ⟨_, rfl⟩
        replace H : ((slices_Clone_byte_byte.f y684).bind fun t688 => (some (t688, wrap64 (t682 + (wrap64 (t681))), 0))) = some (r1, r2, r3) := by first | (rw [hy684]; with_reducible exact H) | (have H2_ := (Option.bind_some _ _).symm.trans H; rw [hy684]; with_reducible exact H2_) | (have H2_ := (Option.bind_some _ _).symm.trans H; with_reducible exact H2_) | with_reducible exact H | (rw [hy684]; exact H) | exact H
        have Ny684 := aM hy684
        clear hy684
        replace H := Option.bind_eq_some_iff.mp H
        obtain ⟨t688, A110, H⟩ := H
        replace H : (some (t688, wrap64 (t682 + (wrap64 (t681))), 0)) = some (r1, r2, r3) := H
        have A11 := aM A110
        clear A110
        simp only [Option.some.injEq, Prod.mk.injEq] at H
        obtain ⟨rfl, rfl, rfl⟩ := H
        go_enter Try.func32, Try.ntmps32
        go_wp2_with (first | ((with_reducible refine gate_callee (f := 58) rfl ?_); refine goesL_ (some 14) rfl rfl Try.func58 (by kernel_rfl) rfl #[.slice A0 l0.length c0] rfl (by (try simp only [List.map_toArray, List.map_cons, List.map_nil]); first | done | rfl | (simp only [List.length_drop, List.length_take]; rfl)) ?_; (with_reducible refine (num_Take.calls k _ _ l0 t681 t682 t683 _ ?side1 ?side2 A4.out).mono ?_); (case side1 => exact xC HR0.out); (case side2 => exact HC0.out); rintro e w' ⟨rfl, ⟨nd, rfl⟩⟩; refine ⟨_, rfl, ?_⟩; have q12 : ((wrap64 (t682 + (wrap64 (t681)))) : Int) ≤ ((l0.length : Int) : Int) := of_decide_eq_true (by first | (with_reducible assumption) | assumption); obtain ⟨i012, hi012, _, hsz12, _⟩ := info_parts info5; have hroom12 : l0.length ≤ c0 := HC0.out; have hC12 : Kd.C (Kd.int .u8) _ A0 l0.length l0 := HR0.out; have ql12 : (t682 : Int) ≤ ((wrap64 (t682 + (wrap64 (t681)))) : Int) := of_decide_eq_true (by first | (with_reducible assumption) | assumption); have q012 : (0 : Int) ≤ (t682 : Int) := of_decide_eq_true (by first | (with_reducible assumption) | assumption); have hcut12 := cut_mid (P := Try.prog) 22 5 .i64 .i64 Try.underlying22 hi012 1 hsz12 A0 l0.length c0 t682 (wrap64 (t682 + (wrap64 (t681)))) q012 ql12 q12 hroom12; have hr12 := Kd.C_mid (lo := (t682 : Int).toNat) (hi := ((wrap64 (t682 + (wrap64 (t681)))) : Int).toNat) (c := c0) hC12 (by omega) (by omega) hroom12; obtain ⟨A12, hA12⟩ : ∃ A_z, A_z = (if c0 = (t682 : Int).toNat then A0 else (A0 : Option Addr).map (·.add ((t682 : Int).toNat * 1))) := ⟨_, rfl⟩; obtain ⟨c12, hc12⟩ : ∃ c_z, c_z = c0 - (t682 : Int).toNat := ⟨_, rfl⟩; have hy12 : y684.length = ((wrap64 (t682 + (wrap64 (t681)))) : Int).toNat - (t682 : Int).toNat := (by rw [Ny684.out, List.length_drop, List.length_take] <;> omega); rw [show ((l0).take ((wrap64 (t682 + (wrap64 (t681)))) : Int).toNat).drop (t682 : Int).toNat = y684 from Ny684.out.symm] at hr12; replace hr12 : Kd.C (Kd.int .u8) _ A12 y684.length y684 := (by rw [hA12]; exact hr12); rw [← hy12, ← hA12, ← hc12] at hcut12; have HR687 := aM hr12; have HC687 := aM (show y684.length ≤ c12 from by rw [hy12, hc12]; exact Nat.sub_le_sub_right (Nat.le_trans (by omega) hroom12) _); clear hr12 hC12 hroom12 hi012 hsz12 hc12; have KY12 := aM hy12; have KA12 := aM hA12; clear hy12 hA12; replace q12 := eq_true q12) | ((with_reducible refine gate_callee (f := 60) rfl ?_); refine goesL_ (some 43) rfl rfl Try.func60 (by kernel_rfl) rfl #[.slice A12 y684.length c12] rfl (by (try simp only [List.map_toArray, List.map_cons, List.map_nil]); first | done | rfl | (simp only [List.length_drop, List.length_take]; rfl)) ?_; (with_reducible refine (slices_Clone_byte_byte.calls _ _ y684 t688 _ ?side1 ?side2 A11.out).mono ?_); (case side1 => exact xC HR687.out); (case side2 => exact HC687.out); rintro e w13 ⟨v689, rfl, ho0, hb⟩; refine ⟨_, rfl, ?_⟩; have n0_ := aM (Kd.R_lower ho0 (below_size (xB HB.out))); have n1_ := aM (below_step (xB HB.out) hb); clear HB; have HO690 := n0_; have HB := n1_; clear n0_ n1_; (try clear hb); (try clear hb2); (try clear hk); (try clear hi); (try clear ho0)))
        go_ret3
        exact ⟨_, by first | rfl | (simp [errW_none, errW_some] <;> rfl) | (simp [*, errW_none, errW_some] <;> rfl), by (with_reducible repeat (first | apply Kd.R_alloc | apply Kd.R_drewN | apply Kd.R_drew)); exact HO690.out, xB HB.out⟩
       ·
        rw [if_neg c10] at H
        exact absurd H (by simp)
      ·
       rw [if_neg c9] at H
       exact absurd H (by simp)
     ·
      rw [if_neg c8] at H
      exact absurd H (by simp)
  ·
   rw [if_neg c5] at H
   have c5b0 : (t683 == 0) = false := beq_eq_false_iff_ne.mpr c5
   have c5b1 : (t683 != 0) = true := bne_iff_ne.mpr c5
   simp only [Option.some.injEq, Prod.mk.injEq] at H
   obtain ⟨rfl, rfl, rfl⟩ := H
   go_enter Try.func32, Try.ntmps32
   go_wp2_with (first | ((with_reducible refine gate_callee (f := 58) rfl ?_); refine goesL_ (some 14) rfl rfl Try.func58 (by kernel_rfl) rfl #[.slice A0 l0.length c0] rfl (by (try simp only [List.map_toArray, List.map_cons, List.map_nil]); first | done | rfl | (simp only [List.length_drop, List.length_take]; rfl)) ?_; (with_reducible refine (num_Take.calls k _ _ l0 t681 t682 t683 _ ?side1 ?side2 A4.out).mono ?_); (case side1 => exact xC HR0.out); (case side2 => exact HC0.out); rintro e w' ⟨rfl, ⟨nd, rfl⟩⟩; refine ⟨_, rfl, ?_⟩))
   go_ret3
   exact ⟨_, by first | rfl | (simp [errW_none, errW_some] <;> rfl) | (simp [*, errW_none, errW_some] <;> rfl), by first | exact Kd.R_nil _ _ _ _ _ | exact Kd.N_nil _ _ _ _ _ | exact Kd.V_nil _ _ _ _ _ | exact Kd.Q_nil _ _ _ _ _ | exact Kd.S_nil _ _ _ _ _, xB HB.out⟩
end Go.Proofs.Ythaifibhflfpkaa.Q
end
section
namespace Go.Proofs.Ythaifibhflfpkaa.Q
open Go.RowKit Go.Proofs.YthaifibhflfpkaaW.PrintWords Go.Proofs.YthaifibhflfpkaaW.PrintLast Go.Proofs.YthaifibhflfpkaaW.PrintMore Go.Proofs.YthaifibhflfpkaaX
namespace Law
theorem nb_lt : ∀ (n v : Nat), v < 18446744073709551616 → nb v = n → v < 2 ^ (8 * n)
  | 0, v, hv, hn => by
    by_cases h : 0 < v
    · rw [nb_step v hv h] at hn
      omega
    · have : v = 0 := by omega
      subst this
      exact Nat.two_pow_pos _
  | n + 1, v, hv, hn => by
    by_cases h : 0 < v
    · rw [nb_step v hv h] at hn
      have ih := nb_lt n (v / 256) (by omega) (by omega)
      rw [show 8 * (n + 1) = 8 * n + 8 by omega, Nat.pow_add, show (2 : Nat) ^ 8 = 256 by rfl]
      omega
    · have : v = 0 := by omega
      subst this
      exact Nat.two_pow_pos _
theorem sizeF (a : Nat) (ha : a < 18446744073709551616) : num_size.f (a : Int) = some ((nb a : Nat) : Int) := by
  unfold num_size.f bits_Len64.f
  rw [if_pos (by omega)]
  simp only [Option.bind_some, Int.toNat_natCast]
  have hb := Lib.bitLen_le a 64 (Nat.le_refl _) ha
  have h1 : wrap64 ((Lib.bitLen a : Int) + 7) = (Lib.bitLen a : Int) + 7 := by unfold wrap64; omega
  rw [h1]
  have h2 : Int.tdiv ((Lib.bitLen a : Int) + 7) 8 = ((nb a : Nat) : Int) := by unfold nb; rw [Int.tdiv_eq_ediv_of_nonneg (by omega)]; omega
  rw [h2]
  have h3 : wrap64 ((nb a : Nat) : Int) = ((nb a : Nat) : Int) := by have := nb_le a ha; unfold wrap64; omega
  rw [h3]
theorem rd_le (n v i : Nat) (h : i < n) : rd (le v n) (i : Int) = ((v / 2 ^ (8 * i) % 256 : Nat) : Int) := by
  rw [rd_nat, List.getD_eq_getElem?_getD, le_get n v i h]
  rfl
theorem take_loop (v : Nat) (hv : v < 18446744073709551616) (h247 : 247 < v) (x5 : Int) (h5 : x5 = ((nb v : Nat) : Int)) : ∀ (d i : Nat), i + d = nb v → Ev (fun k => num_Take.l0 k ((v % 2 ^ (8 * i) : Nat) : Int) x5 (le v (nb v)) ((nb v : Nat) : Int) (i : Int)) ((v : Int), ((1 + nb v : Nat) : Int), (0 : Int))
  | 0, i, hi => by
    have e : i = nb v := by omega
    subst e
    have hlt := nb_lt _ v hv rfl
    have hn := nb_le v hv
    rw [Nat.mod_eq_of_lt hlt]
    refine Ev.step (fun k => by rw [num_Take.l0]) ?_
    refine Ev.neg (by omega) (Ev.neg (by omega) (Ev.get (sizeF v hv) (Ev.neg (by omega) ?_)))
    rw [h5, w64_nat (1 + ((nb v : Nat) : Int)) (1 + nb v) (by omega) (by omega)]
    exact Ev.now _
  | d + 1, i, hi => by
    have hn := nb_le v hv
    have hlt : i < nb v := by omega
    have ih := take_loop v hv h247 x5 h5 d (i + 1) (by omega)
    have hb : v / 2 ^ (8 * i) % 256 < 256 := Nat.mod_lt _ (by decide)
    have p8 : 2 ^ (8 * i + 8) ≤ 2 ^ 64 := Nat.pow_le_pow_right (by decide) (by omega)
    have hsh : v / 2 ^ (8 * i) % 256 * 2 ^ (8 * i) < 2 ^ 64 := by
      refine Nat.lt_of_lt_of_le ?_ p8
      rw [Nat.pow_add, Nat.mul_comm (2 ^ (8 * i))]
      exact (Nat.mul_lt_mul_right (Nat.two_pow_pos _)).2 hb
    have hacc : v % 2 ^ (8 * i) < 2 ^ (8 * i) := Nat.mod_lt _ (Nat.two_pow_pos _)
    have p64 : (2 : Nat) ^ (8 * i) ≤ 2 ^ 64 := Nat.pow_le_pow_right (by decide) (by omega)
    have hor : Go.bits .or .u64 ((v % 2 ^ (8 * i) : Nat) : Int) (shl .u64 (IntKind.u64.wrap (rd (le v (nb v)) (i : Int))) (wrap64 (8 * (i : Int)))) = ((v % 2 ^ (8 * (i + 1)) : Nat) : Int) := by
      rw [rd_le _ v i hlt, wrapu _ (by omega), w64_nat (8 * (i : Int)) (8 * i) (by omega) (by omega), shl_nat _ _ (by omega) hsh]
      rw [or_join .u64 64 (by decide) wraps_u64 (8 * i) _ _ (by omega) (by
        have : v / 2 ^ (8 * i) % 256 * 2 ^ (8 * i) % 2 ^ (8 * i) = 0 := Nat.mul_mod_left _ _
        exact_mod_cast this) (by exact_mod_cast hsh) (by omega) (by exact_mod_cast hacc) (by
        have : v % 2 ^ (8 * i) < 2 ^ 64 := by omega
        exact_mod_cast this)]
      rw [show 8 * (i + 1) = 8 * i + 8 by omega, Nat.pow_add, Nat.mod_mul, show (2 : Nat) ^ 8 = 256 by rfl, Int.natCast_add, Nat.mul_comm (2 ^ (8 * i))]
    have HOR := Lib.hid hor
    clear hor hsh hacc p64 p8 hb
    have HS := Lib.hid (w64_succ i (by omega))
    refine Ev.step (fun k => by rw [num_Take.l0, HOR.out, HS.out]) ?_
    refine Ev.pos (by omega) (Ev.pos (by omega) (Ev.pos (by rw [le_length]; omega) (Ev.pos ?_ ih)))
    rw [w64_nat (8 * (i : Int)) (8 * i) (by omega) (by omega)]
    omega
theorem take (v : Nat) (hv : v < 18446744073709551616) (rest : List Int) (hl : rest.length < 140737488355328) : Ev (fun k => num_Take.f k (numB v ++ rest)) ((v : Int), ((numB v).length : Int), (0 : Int)) := by
  unfold num_Take.f numB
  by_cases h : v ≤ 247
  · rw [if_pos h]
    have e0 : rd ([(v : Int)] ++ rest) 0 = (v : Int) := rfl
    rw [e0]
    refine Ev.neg (by first | (simp; done) | (simp; omega)) (Ev.pos (by first | (simp; done) | (simp; omega)) (Ev.pos (by omega) ?_))
    rw [wrapu v hv]
    exact Ev.now _
  · rw [if_neg h]
    have hn := nb_le v hv
    have hll := le_length (nb v) v
    have e0 : rd (((247 + nb v : Nat) : Int) :: le v (nb v) ++ rest) 0 = ((247 + nb v : Nat) : Int) := rfl
    have hlen : (((247 + nb v : Nat) : Int) :: le v (nb v) ++ rest).length = 1 + nb v + rest.length := by simp [le_length]; omega
    have h1 : 1 ≤ nb v := by
      have := nb_step v hv (by omega)
      omega
    have w1 := Lib.hid (w64_nat ((247 + nb v : Nat) : Int) (247 + nb v) rfl (by omega))
    have w2 := Lib.hid (w64_nat (((247 + nb v : Nat) : Int) - 247) (nb v) (by omega) (by omega))
    have w3 := Lib.hid (w64_nat (1 + ((nb v : Nat) : Int)) (1 + nb v) (by omega) (by omega))
    have w4 := Lib.hid (w64_nat (((1 + nb v + rest.length : Nat) : Int) - 1) (nb v + rest.length) (by omega) (by omega))
    rw [e0, hlen, w1.out, w2.out, w3.out, w4.out]
    have hcut : ((((247 + nb v : Nat) : Int) :: le v (nb v) ++ rest).take (((1 + nb v : Nat) : Int)).toNat).drop 1 = le v (nb v) := by
      rw [Int.toNat_natCast, Nat.add_comm 1, List.cons_append, List.take_succ_cons, List.drop_succ_cons, List.drop_zero, List.take_left' hll]
    refine Ev.neg (by omega) (Ev.pos (by omega) (Ev.neg (by omega) (Ev.neg (by omega) (Ev.pos (by omega) (Ev.pos (by omega) (Ev.get rfl ?_))))))
    rw [hcut, hll]
    have h2 := take_loop v hv (by omega) ((nb v : Nat) : Int) rfl (nb v) 0 (by omega)
    rw [Nat.mul_zero, Nat.pow_zero, Nat.mod_one] at h2
    have e : ((((247 + nb v : Nat) : Int) :: le v (nb v)).length : Int) = ((1 + nb v : Nat) : Int) := by simp [le_length]; omega
    rw [e]
    exact h2
theorem takeRow (x rest : List Int) (most : Nat) (hm : x.length ≤ most) (hmost : most < 9223372036854775808) (hl : x.length + rest.length < 140737488355000) : Ev (fun k => num_TakeRow.f k (rowB x ++ rest) (most : Int)) (x, ((rowB x).length : Int), (0 : Int)) := by
  unfold num_TakeRow.f rowB
  have hn := (numB_length x.length).2 (by omega)
  rw [List.append_assoc]
  have ht := take x.length (by omega) (x ++ rest) (by rw [List.length_append]; omega)
  refine Ev.neg (by omega) (Ev.bind ht (Ev.pos rfl ?_))
  have hlen : (numB x.length ++ (x ++ rest)).length = (numB x.length).length + x.length + rest.length := by simp; omega
  have w1 := Lib.hid (w64_nat ((x.length : Nat) : Int) x.length rfl (by omega))
  have w2 := Lib.hid (w64_nat (((numB x.length).length : Int) + (x.length : Int)) ((numB x.length).length + x.length) (by omega) (by omega))
  have w3 := Lib.hid (w64_nat ((((numB x.length).length + x.length + rest.length : Nat) : Int) - ((numB x.length).length : Int)) (x.length + rest.length) (by omega) (by omega))
  simp only
  rw [hlen, w1.out, w2.out, w3.out, wrapu most (by omega)]
  have hcut : ((numB x.length ++ (x ++ rest)).take ((((numB x.length).length + x.length : Nat) : Int)).toNat).drop (((numB x.length).length : Int)).toNat = x := by
    rw [Int.toNat_natCast, Int.toNat_natCast, ← List.append_assoc, List.take_left' (by simp), List.drop_left' rfl]
  refine Ev.neg (by omega) (Ev.neg (by omega) (Ev.pos (by omega) (Ev.pos (by omega) (Ev.pos (by omega) ?_))))
  rw [hcut]
  refine Ev.get (a := x) (if_pos (by omega)) ?_
  rw [show ((numB x.length ++ x).length : Int) = (((numB x.length).length + x.length : Nat) : Int) by simp]
  exact Ev.now _
end Law
end Go.Proofs.Ythaifibhflfpkaa.Q
end
section
namespace Go.Proofs.Ythaifibhflfpkaa.Q
open Go.RowKit Go.Proofs.YthaifibhflfpkaaW.PrintWords Go.Proofs.YthaifibhflfpkaaW.PrintLast Go.Proofs.YthaifibhflfpkaaW.PrintMore Go.Proofs.YthaifibhflfpkaaX
attribute [local go_sem] max2_int min2_int max_two min_two max_three min_three max_four min_four   -- for this text's walks alone
set_option linter.unusedVariables false
set_option linter.unusedSimpArgs false
mutual
def bits_Unpack.j0 : Nat → List Int → Int → Int → Bool → Option (List Int × Int)
 | 0, _, _, _, _ => none
 | k + 1, x0, x1, x2, x28 => if x28 = true then (some (([] : List Int), 1)) else (if (x0.length : Int) < (wrap64 (Int.tdiv (wrap64 ((wrap64 (x1 * x2)) + 7)) 8)) then (some (([] : List Int), 3)) else (if (x0.length : Int) > (wrap64 (Int.tdiv (wrap64 ((wrap64 (x1 * x2)) + 7)) 8)) then (some (([] : List Int), 2)) else (if (Int.tmod (wrap64 (x1 * x2)) 8) > 0 then (if 0 ≤ (wrap64 ((wrap64 (Int.tdiv (wrap64 ((wrap64 (x1 * x2)) + 7)) 8)) - 1)) then (if (wrap64 ((wrap64 (Int.tdiv (wrap64 ((wrap64 (x1 * x2)) + 7)) 8)) - 1)) < (x0.length : Int) then (if 0 ≤ (Int.tmod (wrap64 (x1 * x2)) 8) then (bits_Unpack.j1 k x0 x1 x2 ((shr .u8 (rd x0 (wrap64 ((wrap64 (Int.tdiv (wrap64 ((wrap64 (x1 * x2)) + 7)) 8)) - 1))) (Int.tmod (wrap64 (x1 * x2)) 8)) != 0)) else (none)) else (none)) else (none)) else (bits_Unpack.j1 k x0 x1 x2 false))))
def bits_Unpack.j1 : Nat → List Int → Int → Int → Bool → Option (List Int × Int)
 | 0, _, _, _, _ => none
 | k + 1, x0, x1, x2, x59 => if x59 = true then (some (([] : List Int), 2)) else (if 0 ≤ x1 then (if (x1 : Int).toNat ≤ 35184372088832 then ((some (List.replicate (x1 : Int).toNat 0 : List Int)).bind fun y611 => (bits_Unpack.l0 k x0 x2 y611 0 (y611.length : Int) 0)) else (none)) else (none))
def bits_Unpack.l0 : Nat → List Int → Int → List Int → Int → Int → Int → Option (List Int × Int)
 | 0, _, _, _, _, _, _ => none
 | k + 1, x0, x2, x10, x11, x63, x64 => if x64 < x63 then (bits_Unpack.l1 k x0 x2 x10 x11 x64 0 x63 x64) else (some (x10, 0))
def bits_Unpack.l1 : Nat → List Int → Int → List Int → Int → Int → Int → Int → Int → Option (List Int × Int)
 | 0, _, _, _, _, _, _, _, _ => none
 | k + 1, x0, x2, x10, x11, x12, x13, x63, x64 => if x13 < x2 then (if 0 ≤ x12 then (if x12 < (x10.length : Int) then (if 0 ≤ (wrap64 (Int.tdiv x11 8)) then (if (wrap64 (Int.tdiv x11 8)) < (x0.length : Int) then (if 0 ≤ (Int.tmod x11 8) then (if 0 ≤ (mn (wrap64 (x2 - x13)) (wrap64 (8 - (Int.tmod x11 8)))) then (if 0 ≤ x13 then (bits_Unpack.l1 k x0 x2 (x10.set (x12 : Int).toNat (Go.bits .or .u64 (rd x10 x12) (shl .u64 (IntKind.u64.wrap (Go.bits .and .u8 (shr .u8 (rd x0 (wrap64 (Int.tdiv x11 8))) (Int.tmod x11 8)) (((shl .u8 1 (mn (wrap64 (x2 - x13)) (wrap64 (8 - (Int.tmod x11 8))))) - 1) % 256))) x13))) (wrap64 (x11 + (mn (wrap64 (x2 - x13)) (wrap64 (8 - (Int.tmod x11 8)))))) x12 (wrap64 (x13 + (mn (wrap64 (x2 - x13)) (wrap64 (8 - (Int.tmod x11 8)))))) x63 x64) else (none)) else (none)) else (none)) else (none)) else (none)) else (none)) else (none)) else (bits_Unpack.l0 k x0 x2 x10 x11 x63 (wrap64 (x64 + 1)))
end
def bits_Unpack.f (k : Nat) (l0 : List Int) (a1 : Int) (a2 : Int) : Option (List Int × Int) := if a2 < 0 then (bits_Unpack.j0 k l0 a1 a2 true) else (if a2 > 64 then (bits_Unpack.j0 k l0 a1 a2 true) else (if a1 < 0 then (bits_Unpack.j0 k l0 a1 a2 true) else (bits_Unpack.j0 k l0 a1 a2 (decide (a1 > 4096)))))
def bits_Unpack.T19 : Bool × List (List Nat × List Nat) := (true, [([], []), ([], []), ([0, 1], [0, 1]), ([2], [2]), ([], []), ([], []), ([5], [5]), ([4, 6], [4, 6]), ([7], [7]), ([], []), ([9], [9]), ([8, 10], [8, 10]), ([], []), ([12], [12]), ([13], [13]), ([11, 14], [11, 14]), ([15], [15]), ([], []), ([16, 17], [16, 17]), ([3, 18], [3, 18]), ([0, 1, 0, 1, 2, 3, 4, 5, 6, 7, 8, 9, 10, 11, 12, 13, 14, 15, 16, 17, 18, 19], [0, 1]), ([20, 19, 0, 1, 2, 3, 4, 5, 6, 7, 8, 9, 10, 11, 12, 13, 14, 15, 16, 17, 18, 19], [19, 20])])
def bits_Unpack.B19 : List Nat := [0, 0, 3, 7, 0, 0, 32, 112, 240, 0, 512, 2032, 0, 4096, 12288, 32752, 65520, 0, 262128, 524287, 1048575, 2097151]
theorem bits_Unpack.tab19 : rtab .any (opsOf Try.f108 19) = bits_Unpack.T19 := by kernel_rfl
theorem bits_Unpack.bits19 : waitsOk bits_Unpack.T19.2 bits_Unpack.B19 = true := by kernel_rfl
set_option maxHeartbeats 8000000 in
set_option maxRecDepth 100000 in
theorem bits_Unpack.calls (k : Nat) (A0 : Option Addr) (c0 : Nat) (l0 : List Int) (a1 : Int) (a2 : Int) (r1 : List Int) (r2 : Int) (w : World) (hr0 : Kd.C (Kd.int .u8) w A0 l0.length l0) (hc0 : l0.length ≤ c0) (h : bits_Unpack.f k l0 a1 a2 = some (r1, r2)) :
  Calls Try.prog 108 #[.slice A0 l0.length c0, .int .i64 a1, .int .i64 a2] w fun e w' => ∃ v0_ : Value, e = .returned (.tuple #[v0_, .int .i64 r2]) ∧ Kd.R (Kd.int .u64) 40 w' w.heap.size (fun _ => True) v0_ r1 ∧ Below w.heap.size w w' := by
 have HR0 := aM hr0
 have HC0 := aM hc0
 clear hr0 hc0
 have HB := aM (Below.refl w.heap.size w)
 have H : (if a2 < 0 then (bits_Unpack.j0 k l0 a1 a2 true) else (if a2 > 64 then (bits_Unpack.j0 k l0 a1 a2 true) else (if a1 < 0 then (bits_Unpack.j0 k l0 a1 a2 true) else (bits_Unpack.j0 k l0 a1 a2 (decide (a1 > 4096)))))) = some (r1, r2) := h
 clear h
 have HC4 := aM H
 clear H
 go_enter Try.func108, Try.ntmps108
 go_upto_region 1 with (fail)
 go_cut [28] (fun v28 wc => ∃ (kq : Nat) (x28_3 : Bool), v28 = .bool x28_3 ∧ Aside0 (bits_Unpack.j0 kq l0 a1 a2 x28_3 = some (r1, r2)) ∧ Aside0 (kq ≤ k) ∧ Aside0 (Below w.heap.size w wc))
 case first =>
  have H := HC4.out
  clear HC4
  by_cases c5 : a2 < 0
  ·
   rw [if_pos c5] at H
   have c5b0 : decide (a2 < 0) = true := decide_eq_true c5
   clear c5
   (first | rw [c5b0] | (simp only [i64_w, i32_w]; rw [c5b0]) | skip)
   have H' := aM H
   clear H
   go_wp2
   go_meet
   case rel => exact ⟨_, (true), (by first | rfl | (simp; done) | (simp [*]; done)), H', ⟨by first | omega | exact Nat.le_refl _⟩, ⟨xB HB.out⟩⟩
  ·
   rw [if_neg c5] at H
   have c5b0 : decide (a2 < 0) = false := decide_eq_false c5
   clear c5
   (first | rw [c5b0] | (simp only [i64_w, i32_w]; rw [c5b0]) | skip)
   by_cases c6 : a2 > 64
   ·
    rw [if_pos c6] at H
    have c6b0 : decide (64 < a2) = true := decide_eq_true c6
    clear c6
    have H' := aM H
    clear H
    go_wp2
    go_meet
    case rel => exact ⟨_, (true), (by first | rfl | (simp; done) | (simp [*]; done)), H', ⟨by first | omega | exact Nat.le_refl _⟩, ⟨xB HB.out⟩⟩
   ·
    rw [if_neg c6] at H
    have c6b0 : decide (64 < a2) = false := decide_eq_false c6
    clear c6
    by_cases c7 : a1 < 0
    ·
     rw [if_pos c7] at H
     have c7b0 : decide (a1 < 0) = true := decide_eq_true c7
     clear c7
     have H' := aM H
     clear H
     go_wp2
     go_meet
     case rel => exact ⟨_, (true), (by first | rfl | (simp; done) | (simp [*]; done)), H', ⟨by first | omega | exact Nat.le_refl _⟩, ⟨xB HB.out⟩⟩
    ·
     rw [if_neg c7] at H
     have c7b0 : decide (a1 < 0) = false := decide_eq_false c7
     clear c7
     have H' := aM H
     clear H
     go_wp2
     go_meet
     case rel => exact ⟨_, (decide (a1 > 4096)), (by first | rfl | (simp; done) | (simp [*]; done)), H', ⟨by first | omega | exact Nat.le_refl _⟩, ⟨xB HB.out⟩⟩
 case rest =>
  clear HC4
  try clear c1
  try clear p2
  try clear c5
  try clear c5b0
  try clear c6
  try clear c6b0
  try clear c7
  try clear c7b0
  obtain ⟨kq, x28_3, rfl, HA, HJ3, HB⟩ := hcut
  cases kq with
  | zero => exact absurd HA.out (by simp [bits_Unpack.j0])
  | succ kj3 =>
   have H := HA.out
   clear HA
   simp only [bits_Unpack.j0] at H
   by_cases c8 : x28_3 = true
   ·
    subst c8
    have H1 : (some (([] : List Int), 1)) = some (r1, r2) := by rw [if_pos rfl] at H; exact H
    clear H
    have H := H1
    clear H1
    simp only [Option.some.injEq, Prod.mk.injEq] at H
    obtain ⟨rfl, rfl⟩ := H
    go_wp2
    go_ret2
    exact ⟨_, by first | rfl | (simp [errW_none, errW_some] <;> rfl) | (simp [*, errW_none, errW_some] <;> rfl), by first | exact Kd.R_nil _ _ _ _ _ | exact Kd.N_nil _ _ _ _ _ | exact Kd.V_nil _ _ _ _ _ | exact Kd.Q_nil _ _ _ _ _ | exact Kd.S_nil _ _ _ _ _, xB HB.out⟩
   ·
    replace c8 := Bool.eq_false_iff.mpr c8
    subst c8
    have H1 : (if (l0.length : Int) < (wrap64 (Int.tdiv (wrap64 ((wrap64 (a1 * a2)) + 7)) 8)) then (some (([] : List Int), 3)) else (if (l0.length : Int) > (wrap64 (Int.tdiv (wrap64 ((wrap64 (a1 * a2)) + 7)) 8)) then (some (([] : List Int), 2)) else (if (Int.tmod (wrap64 (a1 * a2)) 8) > 0 then (if 0 ≤ (wrap64 ((wrap64 (Int.tdiv (wrap64 ((wrap64 (a1 * a2)) + 7)) 8)) - 1)) then (if (wrap64 ((wrap64 (Int.tdiv (wrap64 ((wrap64 (a1 * a2)) + 7)) 8)) - 1)) < (l0.length : Int) then (if 0 ≤ (Int.tmod (wrap64 (a1 * a2)) 8) then (bits_Unpack.j1 kj3 l0 a1 a2 ((shr .u8 (rd l0 (wrap64 ((wrap64 (Int.tdiv (wrap64 ((wrap64 (a1 * a2)) + 7)) 8)) - 1))) (Int.tmod (wrap64 (a1 * a2)) 8)) != 0)) else (none)) else (none)) else (none)) else (bits_Unpack.j1 kj3 l0 a1 a2 false)))) = some (r1, r2) := by rw [if_neg (show ¬ (false = true) by decide)] at H; exact H
    clear H
    have H := H1
    clear H1
    by_cases c9 : (l0.length : Int) < (wrap64 (Int.tdiv (wrap64 ((wrap64 (a1 * a2)) + 7)) 8))
    ·
     rw [if_pos c9] at H
     have c9b0 : decide ((l0.length : Int) < (wrap64 (Int.tdiv (wrap64 ((wrap64 (a1 * a2)) + 7)) 8))) = true := decide_eq_true c9
     clear c9
     simp only [Option.some.injEq, Prod.mk.injEq] at H
     obtain ⟨rfl, rfl⟩ := H
     go_wp2
     go_ret2
     exact ⟨_, by first | rfl | (simp [errW_none, errW_some] <;> rfl) | (simp [*, errW_none, errW_some] <;> rfl), by first | exact Kd.R_nil _ _ _ _ _ | exact Kd.N_nil _ _ _ _ _ | exact Kd.V_nil _ _ _ _ _ | exact Kd.Q_nil _ _ _ _ _ | exact Kd.S_nil _ _ _ _ _, xB HB.out⟩
    ·
     rw [if_neg c9] at H
     have c9b0 : decide ((l0.length : Int) < (wrap64 (Int.tdiv (wrap64 ((wrap64 (a1 * a2)) + 7)) 8))) = false := decide_eq_false c9
     clear c9
     by_cases c10 : (l0.length : Int) > (wrap64 (Int.tdiv (wrap64 ((wrap64 (a1 * a2)) + 7)) 8))
     ·
      rw [if_pos c10] at H
      have c10b0 : decide ((wrap64 (Int.tdiv (wrap64 ((wrap64 (a1 * a2)) + 7)) 8)) < (l0.length : Int)) = true := decide_eq_true c10
      clear c10
      simp only [Option.some.injEq, Prod.mk.injEq] at H
      obtain ⟨rfl, rfl⟩ := H
      go_wp2
      go_ret2
      exact ⟨_, by first | rfl | (simp [errW_none, errW_some] <;> rfl) | (simp [*, errW_none, errW_some] <;> rfl), by first | exact Kd.R_nil _ _ _ _ _ | exact Kd.N_nil _ _ _ _ _ | exact Kd.V_nil _ _ _ _ _ | exact Kd.Q_nil _ _ _ _ _ | exact Kd.S_nil _ _ _ _ _, xB HB.out⟩
     ·
      rw [if_neg c10] at H
      have c10b0 : decide ((wrap64 (Int.tdiv (wrap64 ((wrap64 (a1 * a2)) + 7)) 8)) < (l0.length : Int)) = false := decide_eq_false c10
      clear c10
      have HC11 := aM H
      clear H
      go_upto_region 9 with (fail)
      go_cut [59] (fun v59 wc => ∃ (kq : Nat) (x59_10 : Bool), v59 = .bool x59_10 ∧ Aside0 (bits_Unpack.j1 kq l0 a1 a2 x59_10 = some (r1, r2)) ∧ Aside0 (kq ≤ kj3) ∧ Aside0 (Below w.heap.size w wc))
      case first =>
       have H := HC11.out
       clear HC11
       by_cases c12 : (Int.tmod (wrap64 (a1 * a2)) 8) > 0
       ·
        rw [if_pos c12] at H
        have c12b0 : decide (0 < (Int.tmod (wrap64 (a1 * a2)) 8)) = true := decide_eq_true c12
        clear c12
        (first | rw [c12b0] | (simp only [i64_w, i32_w]; rw [c12b0]) | skip)
        obtain ⟨ji13, hji13⟩ : ∃ j_ : Int, (wrap64 ((wrap64 (Int.tdiv (wrap64 ((wrap64 (a1 * a2)) + 7)) 8)) - 1)) = j_ := ⟨_, rfl⟩
        replace H : (if 0 ≤ (ji13) then (if (ji13) < (l0.length : Int) then (if 0 ≤ (Int.tmod (wrap64 (a1 * a2)) 8) then (bits_Unpack.j1 kj3 l0 a1 a2 ((shr .u8 (rd l0 (ji13)) (Int.tmod (wrap64 (a1 * a2)) 8)) != 0)) else (none)) else (none)) else (none)) = some (r1, r2) := by first | (rw [hji13] at H; exact H) | (simp only [hji13] at H ⊢; exact H)
        have hji13w : (IntKind.i64.wrap ((wrap64 (Int.tdiv (wrap64 ((wrap64 (a1 * a2)) + 7)) 8)) - 1)) = ji13 := (i64_w _).trans hji13
        by_cases c14 : 0 ≤ (ji13)
        ·
         rw [if_pos c14] at H
         have c14b0 : decide (0 ≤ (ji13)) = true := decide_eq_true c14
         clear c14
         by_cases c15 : (ji13) < (l0.length : Int)
         ·
          rw [if_pos c15] at H
          have c15b0 : decide ((ji13) < (l0.length : Int)) = true := decide_eq_true c15
          clear c15
          obtain ⟨ji16, hji16⟩ : ∃ j_ : Int, (Int.tmod (wrap64 (a1 * a2)) 8) = j_ := ⟨_, rfl⟩
          replace H : (if 0 ≤ (ji16) then (bits_Unpack.j1 kj3 l0 a1 a2 ((shr .u8 (rd l0 (ji13)) (ji16)) != 0)) else (none)) = some (r1, r2) := by first | (rw [hji16] at H; exact H) | (simp only [hji16] at H ⊢; exact H)
          (try rw [hji16] at c12b0)
          by_cases c17 : 0 ≤ (ji16)
          ·
           rw [if_pos c17] at H
           have c17b0 := eq_true c17
           have c17b1 : decide (0 ≤ (ji16)) = true := decide_eq_true c17
           clear c17
           obtain ⟨ji18, hji18⟩ : ∃ j_ : Int, (shr .u8 (rd l0 (ji13)) (ji16)) = j_ := ⟨_, rfl⟩
           replace H : (bits_Unpack.j1 kj3 l0 a1 a2 ((ji18) != 0)) = some (r1, r2) := by first | (rw [hji18] at H; exact H) | (simp only [hji18] at H ⊢; exact H)
           have hji18_ : ((rd l0 (ji13)) / 2 ^ min (ji16).toNat 8) = ji18 := hji18
           have hji18z : (ji16) ≤ 8 → ((rd l0 (ji13)) / 2 ^ (ji16).toNat) = ji18 := shr_small hji18
           have H' := aM H
           clear H
           have p610 : 0 ≤ ((ji13) : Int) := of_decide_eq_true (by first | (with_reducible assumption) | assumption)
           have q610 : (ji13) < (l0.length : Int) := of_decide_eq_true (by first | (with_reducible assumption) | assumption)
           obtain ⟨ad610, e610, hx610_0⟩ := Kd.at_int HR0.out (ji13) p610 q610
           cases e610
           replace hx610_0 := (HB.out.cell (World.block_lt_of_cell? w _ hx610_0)).trans hx610_0
           replace p610 := eq_true p610
           replace q610 := eq_true q610
           go_wp2
           (try simp only [← hji16])
           (try simp only [← hji16] at H')
           go_meet
           case rel => exact ⟨_, (((ji18) != 0)), (by first | rfl | (simp; done) | (simp only [← hji18] <;> (first | rfl | simp)) | (simp [*]; done)), H', ⟨by have := HJ3.out; first | omega | exact Nat.le_refl _⟩, ⟨xB HB.out⟩⟩
          ·
           rw [if_neg c17] at H
           exact absurd H (by simp)
         ·
          rw [if_neg c15] at H
          exact absurd H (by simp)
        ·
         rw [if_neg c14] at H
         exact absurd H (by simp)
       ·
        rw [if_neg c12] at H
        have c12b0 : decide (0 < (Int.tmod (wrap64 (a1 * a2)) 8)) = false := decide_eq_false c12
        clear c12
        (first | rw [c12b0] | (simp only [i64_w, i32_w]; rw [c12b0]) | skip)
        have H' := aM H
        clear H
        go_wp2
        go_meet
        case rel => exact ⟨_, (false), (by first | rfl | (simp; done) | (simp [*]; done)), H', ⟨by have := HJ3.out; first | omega | exact Nat.le_refl _⟩, ⟨xB HB.out⟩⟩
      case rest =>
       clear HC11
       try clear c1
       try clear p2
       try clear c5
       try clear c5b0
       try clear c6
       try clear c6b0
       try clear p6
       try clear q6
       try clear hx6
       try clear c7
       try clear c7b0
       try clear c8
       try clear c9
       try clear c9b0
       try clear c10
       try clear c10b0
       try clear c12
       try clear c12b0
       try clear c14
       try clear c14b0
       try clear c15
       try clear c15b0
       try clear c17
       try clear c17b0
       try clear c17b1
       try clear hx610_0
       try clear p2
       try clear p610
       try clear q610
       obtain ⟨kq, x59_10, rfl, HA, HJ10, HB⟩ := hcut
       cases kq with
       | zero => exact absurd HA.out (by simp [bits_Unpack.j1])
       | succ kj10 =>
        have H := HA.out
        clear HA
        simp only [bits_Unpack.j1] at H
        by_cases c19 : x59_10 = true
        ·
         subst c19
         have H1 : (some (([] : List Int), 2)) = some (r1, r2) := by rw [if_pos rfl] at H; exact H
         clear H
         have H := H1
         clear H1
         simp only [Option.some.injEq, Prod.mk.injEq] at H
         obtain ⟨rfl, rfl⟩ := H
         go_wp2
         go_ret2
         exact ⟨_, by first | rfl | (simp [errW_none, errW_some] <;> rfl) | (simp [*, errW_none, errW_some] <;> rfl), by first | exact Kd.R_nil _ _ _ _ _ | exact Kd.N_nil _ _ _ _ _ | exact Kd.V_nil _ _ _ _ _ | exact Kd.Q_nil _ _ _ _ _ | exact Kd.S_nil _ _ _ _ _, xB HB.out⟩
        ·
         replace c19 := Bool.eq_false_iff.mpr c19
         subst c19
         have H1 : (if 0 ≤ a1 then (if (a1 : Int).toNat ≤ 35184372088832 then ((some (List.replicate (a1 : Int).toNat 0 : List Int)).bind fun y611 => (bits_Unpack.l0 kj10 l0 a2 y611 0 (y611.length : Int) 0)) else (none)) else (none)) = some (r1, r2) := by rw [if_neg (show ¬ (false = true) by decide)] at H; exact H
         clear H
         have H := H1
         clear H1
         by_cases c20 : 0 ≤ a1
         ·
          rw [if_pos c20] at H
          have c20b0 := eq_true c20
          have c20b1 : decide (0 ≤ a1) = true := decide_eq_true c20
          clear c20
          by_cases c21 : (a1 : Int).toNat ≤ 35184372088832
          ·
           rw [if_pos c21] at H
           have c21b0 := eq_true c21
           have c21b1 : decide ((a1 : Int).toNat ≤ 35184372088832) = true := decide_eq_true c21
           clear c21
           obtain ⟨y611, hy611⟩ : ∃ y_ : List Int, y_ = (List.replicate (a1 : Int).toNat 0) := ⟨_, rfl⟩
           replace H : (bits_Unpack.l0 kj10 l0 a2 y611 0 (y611.length : Int) 0) = some (r1, r2) := by first | (rw [hy611]; with_reducible exact H) | (have H2_ := (Option.bind_some _ _).symm.trans H; rw [hy611]; with_reducible exact H2_) | (have H2_ := (Option.bind_some _ _).symm.trans H; with_reducible exact H2_) | with_reducible exact H | (rw [hy611]; exact H) | exact H
           have Ny611 := aM hy611
           clear hy611
           have H' := aM H
           clear H
           go_wp2_with (first | ((with_reducible refine gate_dst (N := 61) rfl ?_); refine Kd.R_make (Kd.int .u64) _ 40 rfl (N := 61) rfl 39 _ _ rfl a1 rfl rfl Try.underlying39 (.int .u64 0) 8 info40 rfl (by decide) (by omega) 0 (ok := fun _ => True) (okp := fun _ => True) rfl (fun _ hk => hk) trivial (of_decide_eq_true (by first | (with_reducible assumption) | assumption)) (Nat.le_trans (Nat.mul_le_mul_right _ (of_decide_eq_true (by first | (with_reducible assumption) | assumption) : a1.toNat ≤ 35184372088832)) (by omega)) (Below.refl _ _) (Nat.le_refl _) ?_; intro v612 w22 ho23 hb hg_ hnew_; clear hg_ hnew_; (first | rw [← Ny611.out] at ho23 | (simp only [Int.reduceToNat] at ho23; rw [← Ny611.out] at ho23)); have n0_ := aM (Kd.R_lower ho23 (below_size (xB HB.out))); have n1_ := aM (below_step (xB HB.out) hb); clear HB; have HO613 := n0_; have HB := n1_; clear n0_ n1_; clear hb ho23; obtain ⟨Ao24, co24, eo24⟩ := Kd.R_slice HO613.out; subst eo24))
           go_loopg [11, 64] kj10 (fun kq v11 v64 w' => ∃ (x10_3 : List Int) (x11_3 : Int) (x64_3 : Int), v11 = .int .i64 x11_3 ∧ v64 = .int .i64 x64_3 ∧ Aside0 (bits_Unpack.l0 kq l0 a2 x10_3 x11_3 (y611.length : Int) x64_3 = some (r1, r2)) ∧ Aside0 (kq ≤ kj10) ∧ Aside0 (Kd.R (Kd.int .u64) 40 w' w.heap.size (fun _ => True) (.slice Ao24 y611.length co24) x10_3) ∧ Aside0 (Below w.heap.size w w'))
           case atStart => exact ⟨(y611), (0), (0), (by first | rfl | (simp; done) | (simp [*]; done)), (by first | rfl | (simp; done) | (simp [*]; done)), H', ⟨Nat.le_refl _⟩, ⟨by (with_reducible repeat (first | apply Kd.R_alloc | apply Kd.R_drewN | apply Kd.R_drew)); exact HO613.out⟩, ⟨xB HB.out⟩⟩
           case round =>
            clear H'
            try clear c1
            try clear c2
            try clear p2
            try clear c5
            try clear c5b0
            try clear c6
            try clear c6b0
            try clear p6
            try clear q6
            try clear hx6
            try clear c7
            try clear c7b0
            try clear c8
            try clear c9
            try clear c9b0
            try clear c10
            try clear c10b0
            try clear c12
            try clear c12b0
            try clear c14
            try clear c14b0
            try clear c15
            try clear c15b0
            try clear c17
            try clear c17b0
            try clear c17b1
            try clear c19
            try clear c20
            try clear c20b0
            try clear c20b1
            try clear c21
            try clear c21b0
            try clear c21b1
            try clear hx610_0
            try clear p2
            try clear p6
            try clear p610
            try clear q6
            try clear q610
            obtain ⟨x10_3, x11_3, x64_3, rfl, rfl, HA, HK3, HO_10, HB⟩ := hrel
            have hl10_3 := (Kd.R_reads' HO_10.out).1
            rw [hl10_3] at HO_10
            (try simp only [hl10_3])
            cases gk with
            | zero => exact absurd HA.out (by simp [bits_Unpack.l0])
            | succ k3 =>
             have H := HA.out
             clear HA
             simp only [bits_Unpack.l0] at H
             by_cases c25 : x64_3 < (y611.length : Int)
             ·
              rw [if_pos c25] at H
              have c25b0 : decide (x64_3 < (y611.length : Int)) = true := decide_eq_true c25
              (try (have c25h0 := c25b0; simp only [hl10_3] at c25h0))
              clear c25
              have H' := aM H
              clear H
              go_wp2
              go_loopg [11, 13] k3 (fun kq v11 v13 w' => ∃ (x10_4 : List Int) (x11_4 : Int) (x13_4 : Int), v11 = .int .i64 x11_4 ∧ v13 = .int .i64 x13_4 ∧ Aside0 (bits_Unpack.l1 kq l0 a2 x10_4 x11_4 x64_3 x13_4 (y611.length : Int) x64_3 = some (r1, r2)) ∧ Aside0 (kq ≤ k3) ∧ Aside0 (Kd.R (Kd.int .u64) 40 w' w.heap.size (fun _ => True) (.slice Ao24 x10_3.length co24) x10_4) ∧ Aside0 (Below w.heap.size w w'))
              case atStart => exact ⟨(x10_3), (x11_3), (0), (by first | rfl | (simp; done) | (simp [*]; done)), (by first | rfl | (simp; done) | (simp [*]; done)), H', ⟨Nat.le_refl _⟩, ⟨by (try simp only [hl10_3]); (with_reducible repeat (first | apply Kd.R_alloc | apply Kd.R_drewN | apply Kd.R_drew)); exact HO_10.out⟩, ⟨xB HB.out⟩⟩
              case round =>
               clear H'
               try clear c1
               try clear c2
               try clear p2
               try clear c5
               try clear c5b0
               try clear c6
               try clear c6b0
               try clear p6
               try clear q6
               try clear hx6
               try clear c7
               try clear c7b0
               try clear c8
               try clear c9
               try clear c9b0
               try clear c10
               try clear c10b0
               try clear c12
               try clear c12b0
               try clear c14
               try clear c14b0
               try clear c15
               try clear c15b0
               try clear c17
               try clear c17b0
               try clear c17b1
               try clear c19
               try clear c20
               try clear c20b0
               try clear c20b1
               try clear c21
               try clear c21b0
               try clear c21b1
               try clear c25
               try clear c25b0
               try clear hx610_0
               try clear p2
               try clear p6
               try clear p610
               try clear q6
               try clear q610
               obtain ⟨x10_4, x11_4, x13_4, rfl, rfl, HA, HK4, HO_10, HB⟩ := hrel
               have hl10_4 := (Kd.R_reads' HO_10.out).1
               rw [hl10_4] at HO_10
               (try simp only [hl10_4])
               cases gk with
               | zero => exact absurd HA.out (by simp [bits_Unpack.l1])
               | succ k4 =>
                have H := HA.out
                clear HA
                simp only [bits_Unpack.l1] at H
                by_cases c26 : x13_4 < a2
                ·
                 rw [if_pos c26] at H
                 have c26b0 : decide (x13_4 < a2) = true := decide_eq_true c26
                 clear c26
                 obtain ⟨ji27, hji27⟩ : ∃ j_ : Int, (mn (wrap64 (a2 - x13_4)) (wrap64 (8 - (Int.tmod x11_4 8)))) = j_ := ⟨_, rfl⟩
                 replace H : (if 0 ≤ x64_3 then (if x64_3 < (x10_4.length : Int) then (if 0 ≤ (wrap64 (Int.tdiv x11_4 8)) then (if (wrap64 (Int.tdiv x11_4 8)) < (l0.length : Int) then (if 0 ≤ (Int.tmod x11_4 8) then (if 0 ≤ (ji27) then (if 0 ≤ x13_4 then (bits_Unpack.l1 k4 l0 a2 (x10_4.set (x64_3 : Int).toNat (Go.bits .or .u64 (rd x10_4 x64_3) (shl .u64 (IntKind.u64.wrap (Go.bits .and .u8 (shr .u8 (rd l0 (wrap64 (Int.tdiv x11_4 8))) (Int.tmod x11_4 8)) (((shl .u8 1 (ji27)) - 1) % 256))) x13_4))) (wrap64 (x11_4 + (ji27))) x64_3 (wrap64 (x13_4 + (ji27))) (y611.length : Int) x64_3) else (none)) else (none)) else (none)) else (none)) else (none)) else (none)) else (none)) = some (r1, r2) := by first | (rw [hji27] at H; exact H) | (simp only [hji27] at H ⊢; exact H)
                 have hji27_ : (if (wrap64 (8 - (Int.tmod x11_4 8))) < (wrap64 (a2 - x13_4)) then (wrap64 (8 - (Int.tmod x11_4 8))) else (wrap64 (a2 - x13_4))) = ji27 := hji27
                 by_cases c28 : 0 ≤ x64_3
                 ·
                  rw [if_pos c28] at H
                  have c28b0 : decide (0 ≤ x64_3) = true := decide_eq_true c28
                  clear c28
                  by_cases c29 : x64_3 < (x10_4.length : Int)
                  ·
                   rw [if_pos c29] at H
                   have c29b0 : decide (x64_3 < (x10_4.length : Int)) = true := decide_eq_true c29
                   (try (have c29h0 := c29b0; simp only [hl10_3, hl10_4] at c29h0))
                   clear c29
                   obtain ⟨ji30, hji30⟩ : ∃ j_ : Int, (wrap64 (Int.tdiv x11_4 8)) = j_ := ⟨_, rfl⟩
                   replace H : (if 0 ≤ (ji30) then (if (ji30) < (l0.length : Int) then (if 0 ≤ (Int.tmod x11_4 8) then (if 0 ≤ (ji27) then (if 0 ≤ x13_4 then (bits_Unpack.l1 k4 l0 a2 (x10_4.set (x64_3 : Int).toNat (Go.bits .or .u64 (rd x10_4 x64_3) (shl .u64 (IntKind.u64.wrap (Go.bits .and .u8 (shr .u8 (rd l0 (ji30)) (Int.tmod x11_4 8)) (((shl .u8 1 (ji27)) - 1) % 256))) x13_4))) (wrap64 (x11_4 + (ji27))) x64_3 (wrap64 (x13_4 + (ji27))) (y611.length : Int) x64_3) else (none)) else (none)) else (none)) else (none)) else (none)) = some (r1, r2) := by first | (rw [hji30] at H; exact H) | (simp only [hji30] at H ⊢; exact H)
                   have hji30w : (IntKind.i64.wrap (Int.tdiv x11_4 8)) = ji30 := (i64_w _).trans hji30
                   by_cases c31 : 0 ≤ (ji30)
                   ·
                    rw [if_pos c31] at H
                    have c31b0 : decide (0 ≤ (ji30)) = true := decide_eq_true c31
                    clear c31
                    by_cases c32 : (ji30) < (l0.length : Int)
                    ·
                     rw [if_pos c32] at H
                     have c32b0 : decide ((ji30) < (l0.length : Int)) = true := decide_eq_true c32
                     (try (have c32h0 := c32b0; simp only [hl10_3, hl10_4] at c32h0))
                     clear c32
                     obtain ⟨ji33, hji33⟩ : ∃ j_ : Int, (Int.tmod x11_4 8) = j_ := ⟨_, rfl⟩
                     replace H : (if 0 ≤ (ji33) then (if 0 ≤ (ji27) then (if 0 ≤ x13_4 then (bits_Unpack.l1 k4 l0 a2 (x10_4.set (x64_3 : Int).toNat (Go.bits .or .u64 (rd x10_4 x64_3) (shl .u64 (IntKind.u64.wrap (Go.bits .and .u8 (shr .u8 (rd l0 (ji30)) (ji33)) (((shl .u8 1 (ji27)) - 1) % 256))) x13_4))) (wrap64 (x11_4 + (ji27))) x64_3 (wrap64 (x13_4 + (ji27))) (y611.length : Int) x64_3) else (none)) else (none)) else (none)) = some (r1, r2) := by first | (rw [hji33] at H; exact H) | (simp only [hji33] at H ⊢; exact H)
                     (try rw [hji33] at hji27_)
                     (try rw [hji33] at hji27w)
                     by_cases c34 : 0 ≤ (ji33)
                     ·
                      rw [if_pos c34] at H
                      have c34b0 := eq_true c34
                      have c34b1 : decide (0 ≤ (ji33)) = true := decide_eq_true c34
                      clear c34
                      obtain ⟨ji35, hji35⟩ : ∃ j_ : Int, (shr .u8 (rd l0 (ji30)) (ji33)) = j_ := ⟨_, rfl⟩
                      replace H : (if 0 ≤ (ji27) then (if 0 ≤ x13_4 then (bits_Unpack.l1 k4 l0 a2 (x10_4.set (x64_3 : Int).toNat (Go.bits .or .u64 (rd x10_4 x64_3) (shl .u64 (IntKind.u64.wrap (Go.bits .and .u8 (ji35) (((shl .u8 1 (ji27)) - 1) % 256))) x13_4))) (wrap64 (x11_4 + (ji27))) x64_3 (wrap64 (x13_4 + (ji27))) (y611.length : Int) x64_3) else (none)) else (none)) = some (r1, r2) := by first | (rw [hji35] at H; exact H) | (simp only [hji35] at H ⊢; exact H)
                      have hji35_ : ((rd l0 (ji30)) / 2 ^ min (ji33).toNat 8) = ji35 := hji35
                      have hji35z : (ji33) ≤ 8 → ((rd l0 (ji30)) / 2 ^ (ji33).toNat) = ji35 := shr_small hji35
                      by_cases c36 : 0 ≤ (ji27)
                      ·
                       rw [if_pos c36] at H
                       have c36b0 := eq_true c36
                       have c36b1 : decide (0 ≤ (ji27)) = true := decide_eq_true c36
                       clear c36
                       obtain ⟨ji37, hji37⟩ : ∃ j_ : Int, (shl .u8 1 (ji27)) = j_ := ⟨_, rfl⟩
                       replace H : (if 0 ≤ x13_4 then (bits_Unpack.l1 k4 l0 a2 (x10_4.set (x64_3 : Int).toNat (Go.bits .or .u64 (rd x10_4 x64_3) (shl .u64 (IntKind.u64.wrap (Go.bits .and .u8 (ji35) (((ji37) - 1) % 256))) x13_4))) (wrap64 (x11_4 + (ji27))) x64_3 (wrap64 (x13_4 + (ji27))) (y611.length : Int) x64_3) else (none)) = some (r1, r2) := by first | (rw [hji37] at H; exact H) | (simp only [hji37] at H ⊢; exact H)
                       have hji37_ : (IntKind.u8.wrap (1 * 2 ^ min (ji27).toNat 8)) = ji37 := hji37
                       have hji37z : (ji27) ≤ 8 → (IntKind.u8.wrap (1 * 2 ^ (ji27).toNat)) = ji37 := shl_small hji37
                       have hji37u : (IntKind.u8.wrap (2 ^ min (ji27).toNat 8)) = ji37 := by have h_ := hji37_; rw [Int.one_mul] at h_; exact h_
                       have hji37v : (ji27) ≤ 8 → (IntKind.u8.wrap (2 ^ (ji27).toNat)) = ji37 := fun hle_ => by have h_ := hji37z hle_; rw [Int.one_mul] at h_; exact h_
                       by_cases c38 : 0 ≤ x13_4
                       ·
                        rw [if_pos c38] at H
                        have c38b0 := eq_true c38
                        have c38b1 : decide (0 ≤ x13_4) = true := decide_eq_true c38
                        clear c38
                        obtain ⟨ji39, hji39⟩ : ∃ j_ : Int, (shl .u64 (IntKind.u64.wrap (Go.bits .and .u8 (ji35) (((ji37) - 1) % 256))) x13_4) = j_ := ⟨_, rfl⟩
                        replace H : (bits_Unpack.l1 k4 l0 a2 (x10_4.set (x64_3 : Int).toNat (Go.bits .or .u64 (rd x10_4 x64_3) (ji39))) (wrap64 (x11_4 + (ji27))) x64_3 (wrap64 (x13_4 + (ji27))) (y611.length : Int) x64_3) = some (r1, r2) := by first | (rw [hji39] at H; exact H) | (simp only [hji39] at H ⊢; exact H)
                        have hji39_ : (IntKind.u64.wrap ((IntKind.u64.wrap (Go.bits .and .u8 (ji35) (((ji37) - 1) % 256))) * 2 ^ min x13_4.toNat 64)) = ji39 := hji39
                        have hji39z : x13_4 ≤ 64 → (IntKind.u64.wrap ((IntKind.u64.wrap (Go.bits .and .u8 (ji35) (((ji37) - 1) % 256))) * 2 ^ x13_4.toNat)) = ji39 := shl_small hji39
                        obtain ⟨y616, hy616⟩ : ∃ y_ : List Int, y_ = (x10_4.set (x64_3 : Int).toNat (Go.bits .or .u64 (rd x10_4 x64_3) (ji39))) := ⟨_, rfl⟩
                        replace H : (bits_Unpack.l1 k4 l0 a2 y616 (wrap64 (x11_4 + (ji27))) x64_3 (wrap64 (x13_4 + (ji27))) (y611.length : Int) x64_3) = some (r1, r2) := by first | (rw [hy616]; with_reducible exact H) | (have H2_ := (Option.bind_some _ _).symm.trans H; rw [hy616]; with_reducible exact H2_) | (have H2_ := (Option.bind_some _ _).symm.trans H; with_reducible exact H2_) | with_reducible exact H | (rw [hy616]; exact H) | exact H
                        have Ny616 := aM hy616
                        clear hy616
                        have H' := aM H
                        clear H
                        try go_wp2
                        have n0_ := aM (Kd.R_drew HO_10.out)
                        have n1_ := aM (below_drew1 HB.out)
                        clear HO_10
                        clear HB
                        have HO_10 := n0_
                        have HB := n1_
                        clear n0_ n1_
                        have p614 : 0 ≤ (x64_3 : Int) := of_decide_eq_true (by first | (with_reducible assumption) | assumption)
                        have q614 : x64_3 < (x10_4.length : Int) := of_decide_eq_true (by first | (with_reducible assumption) | assumption)
                        obtain ⟨ad614, e614, hx614_0⟩ := Kd.at_int (Kd.R_reads' HO_10.out).2.2 x64_3 p614 q614
                        cases e614
                        replace p614 := eq_true p614
                        replace q614 := eq_true q614
                        have p615 : 0 ≤ ((ji30) : Int) := of_decide_eq_true (by first | (with_reducible assumption) | assumption)
                        have q615 : (ji30) < (l0.length : Int) := of_decide_eq_true (by first | (with_reducible assumption) | assumption)
                        obtain ⟨ad615, e615, hx615_0⟩ := Kd.at_int HR0.out (ji30) p615 q615
                        have hw615_0 := hx615_0
                        cases e615
                        replace hx615_0 := (HB.out.cell (World.block_lt_of_cell? w _ hx615_0)).trans hx615_0
                        replace p615 := eq_true p615
                        replace q615 := eq_true q615
                        have p40 : 0 ≤ (x64_3 : Int) := of_decide_eq_true (by first | (with_reducible assumption) | assumption)
                        have q40 : (x64_3 : Int) < ((x10_4.length : Int) : Int) := of_decide_eq_true (by first | (with_reducible assumption) | assumption)
                        obtain ⟨go40, co40, eo40, gb40, gl40, cl40, HG40⟩ := Kd.R_form HO_10.out (by omega)
                        (first | cases eo40 | (injection eo40 with ea_ en_ ec_; (first | subst ea_ | (injection ea_ with ea_; subst ea_)); subst ec_; clear en_))
                        have GB40 := aM gb40
                        have GG40 := aM HG40
                        clear gb40 gl40 HG40
                        (first | simp only [add_plain] at hx614_0 | skip)
                        obtain ⟨hx40_0, hf40_0⟩ := Kd.R_celln 0 HO_10.out (x64_3 : Int) p40 q40
                        replace p40 := eq_true p40
                        replace q40 := eq_true q40
                        have HP42 := Kd.R_putn HO_10.out (x64_3 : Int) (Go.bits .or .u64 (rd x10_4 x64_3) (ji39))
                        rw [← Ny616.out] at HP42
                        have HQ42 := aM HP42
                        clear HP42
                        refine start_ (n := 22) (S := fun w' => w'.cell? ⟨go40, (x64_3).toNat, none⟩ = some (.int .u64 (rd x10_4 x64_3)) ∧ w'.cell? (ad615.add ((ji30)).toNat) = some (.int .u8 (rd l0 (ji30)))) (ds := [21]) b35_ (by kernel_rfl) rfl rfl ⟨hx614_0, ((HB.out.cell (World.block_lt_of_cell? w _ hw615_0)).trans hw615_0)⟩ (fun hHeld => ?_); refine with_tabW bits_Unpack.tab19 bits_Unpack.bits19 (fun HT_ HW_ => ?_)
                        generalize wr.drew = w41 at HO_10 HB GG40 HQ42 hf40_0 hx40_0 hx614_0 hx615_0 hHeld ⊢
                        refine pure_ (i := 0) (N := some 77) (v := ?_) (a' := ?_) b36_ rfl rfl (any_of HT_.out (by kernel_rfl)) (fun _ _ _ h => h) (Or.inl ⟨by rfl, ?_⟩) ?_ ?_; rotate_left; (· intro w'; go_simp; with_reducible rfl); rotate_left; (· simp only [xQ, i64_w, i32_w]; rfl)
                        refine pure_ (i := 1) (N := some 78) (v := ?_) (a' := ?_) b37_ rfl rfl (any_of HT_.out (by kernel_rfl)) (fun _ _ _ h => h) (Or.inl ⟨by rfl, ?_⟩) ?_ ?_; rotate_left; (· intro w'; go_simp; with_reducible rfl); rotate_left; (· simp only [xQ, i64_w, i32_w]; rfl)
                        refine pure_ (i := 2) (N := some 79) (v := ?_) (a' := ?_) b38_ rfl rfl (any_of HT_.out (by kernel_rfl)) (fun _ _ _ h => h) (Or.inl ⟨by rfl, ?_⟩) ?_ ?_; rotate_left; (· intro w'; go_simp; with_reducible rfl); rotate_left; (· simp only [xQ, i64_w, i32_w]; rfl)
                        refine pure_ (i := 4) (N := some 81) (v := ?_) (a' := ?_) b39_ rfl rfl (any_of HT_.out (by kernel_rfl)) (fun _ _ _ h => h) (Or.inl ⟨by rfl, ?_⟩) ?_ ?_; rotate_left; (· intro w'; go_simp; with_reducible rfl); rotate_left; (· simp only [xQ, i64_w, i32_w]; rfl)
                        refine pure_ (i := 5) (N := some 82) (v := ?_) (a' := ?_) b40_ rfl rfl (any_of HT_.out (by kernel_rfl)) (fun _ _ _ h => h) (Or.inl ⟨by rfl, ?_⟩) ?_ ?_; rotate_left; (· intro w'; go_simp; with_reducible rfl); rotate_left; (· simp only [xQ, i64_w, i32_w]; rfl)
                        refine pure_ (i := 6) (N := some 83) (v := ?_) (a' := ?_) b41_ rfl rfl (any_of HT_.out (by kernel_rfl)) (fun _ _ _ h => h) (Or.inl ⟨by rfl, ?_⟩) ?_ ?_; rotate_left; (· intro w'; go_simp; with_reducible rfl); rotate_left; (· simp only [xQ, i64_w, i32_w]; rfl)
                        refine pure_ (i := 7) (N := some 84) (v := ?_) (a' := ?_) b42_ rfl rfl (any_of HT_.out (by kernel_rfl)) (fun _ _ _ h => h) (Or.inl ⟨by rfl, ?_⟩) ?_ ?_; rotate_left; (· intro w'; go_simp; with_reducible rfl); rotate_left; (· simp only [xQ, i64_w, i32_w]; rfl)
                        refine pure_ (i := 9) (N := some 86) (v := ?_) (a' := ?_) b43_ rfl rfl (any_of HT_.out (by kernel_rfl)) (fun _ _ _ h => h) (Or.inl ⟨by rfl, ?_⟩) ?_ ?_; rotate_left; (· intro w'; go_simp; with_reducible rfl); rotate_left; (· simp only [xQ, i64_w, i32_w]; rfl)
                        refine pure_ (i := 10) (N := some 87) (v := ?_) (a' := ?_) b44_ rfl rfl (any_of HT_.out (by kernel_rfl)) (fun _ _ _ h => h) (Or.inl ⟨by rfl, ?_⟩) ?_ ?_; rotate_left; (· intro w'; go_simp; with_reducible rfl); rotate_left; (· simp only [xQ, i64_w, i32_w]; rfl)
                        refine pure_ (i := 12) (N := some 89) (v := ?_) (a' := ?_) b45_ rfl rfl (any_of HT_.out (by kernel_rfl)) (fun _ _ _ h => h) (Or.inl ⟨by rfl, ?_⟩) ?_ ?_; rotate_left; (· intro w'; go_simp; with_reducible rfl); rotate_left; (· simp only [xQ, i64_w, i32_w]; rfl)
                        refine pure_ (i := 13) (N := some 90) (v := ?_) (a' := ?_) b46_ rfl rfl (any_of HT_.out (by kernel_rfl)) (fun _ _ _ h => h) (Or.inl ⟨by rfl, ?_⟩) ?_ ?_; rotate_left; (· intro w'; go_simp; with_reducible rfl); rotate_left; (· simp only [xQ, i64_w, i32_w]; rfl)
                        refine pure_ (i := 14) (N := some 91) (v := ?_) (a' := ?_) b47_ rfl rfl (any_of HT_.out (by kernel_rfl)) (fun _ _ _ h => h) (Or.inl ⟨by rfl, ?_⟩) ?_ ?_; rotate_left; (· intro w'; go_simp; with_reducible rfl); rotate_left; (· simp only [xQ, i64_w, i32_w]; rfl)
                        refine pure_ (i := 17) (N := some 94) (v := ?_) (a' := ?_) b48_ rfl rfl (any_of HT_.out (by kernel_rfl)) (fun _ _ _ h => h) (Or.inl ⟨by rfl, ?_⟩) ?_ ?_; rotate_left; (· intro w'; go_simp; with_reducible rfl); rotate_left; (· simp only [xQ, i64_w, i32_w]; rfl)
                        refine take_ (i := 3) (N := some 80) (v := ?_) (a' := ?_) b49_ rfl rfl (take_ofW HT_.out HW_.out (by kernel_rfl)) (fun _ _ _ h => h) (Or.inl ⟨by rfl, ?_⟩) hHeld ?_ ?_; rotate_left; (· rintro w' ⟨s0, s1⟩; go_simp; with_reducible rfl); rotate_left; (· simp only [xQ, i64_w, i32_w]; rfl)
                        refine take_ (i := 8) (N := some 85) (v := ?_) (a' := ?_) b50_ rfl rfl (take_ofW HT_.out HW_.out (by kernel_rfl)) (fun _ _ _ h => h) (Or.inl ⟨by rfl, ?_⟩) hHeld ?_ ?_; rotate_left; (· rintro w' ⟨s0, s1⟩; go_simp; with_reducible rfl); rotate_left; (· simp only [xQ, i64_w, i32_w]; rfl)
                        refine pure_ (i := 11) (N := some 88) (v := ?_) (a' := ?_) b51_ rfl rfl (any_of HT_.out (by kernel_rfl)) (fun _ _ _ h => h) (Or.inl ⟨by rfl, ?_⟩) ?_ ?_; rotate_left; (· intro w'; go_simp; with_reducible rfl); rotate_left; (· simp only [xQ, i64_w, i32_w]; rfl)
                        refine pure_ (i := 15) (N := some 92) (v := ?_) (a' := ?_) b52_ rfl rfl (any_of HT_.out (by kernel_rfl)) (fun _ _ _ h => h) (Or.inl ⟨by rfl, ?_⟩) ?_ ?_; rotate_left; (· intro w'; go_simp; with_reducible rfl); rotate_left; (· simp only [xQ, i64_w, i32_w]; rfl)
                        refine pure_ (i := 16) (N := some 93) (v := ?_) (a' := ?_) b53_ rfl rfl (any_of HT_.out (by kernel_rfl)) (fun _ _ _ h => h) (Or.inl ⟨by rfl, ?_⟩) ?_ ?_; rotate_left; (· intro w'; go_simp; with_reducible rfl); rotate_left; (· simp only [xQ, i64_w, i32_w]; rfl)
                        refine pure_ (i := 18) (N := some 95) (v := ?_) (a' := ?_) b54_ rfl rfl (any_of HT_.out (by kernel_rfl)) (fun _ _ _ h => h) (Or.inl ⟨by rfl, ?_⟩) ?_ ?_; rotate_left; (· intro w'; go_simp; with_reducible rfl); rotate_left; (· simp only [xQ, i64_w, i32_w]; rfl)
                        refine pure_ (i := 19) (N := some 96) (v := ?_) (a' := ?_) b55_ rfl rfl (any_of HT_.out (by kernel_rfl)) (fun _ _ _ h => h) (Or.inl ⟨by rfl, ?_⟩) ?_ ?_; rotate_left; (· intro w'; go_simp; with_reducible rfl); rotate_left; (· simp only [xQ, i64_w, i32_w]; rfl)
                        refine pure_ (i := 20) (N := some 97) (v := ?_) (a' := ?_) b56_ rfl rfl (any_of HT_.out (by kernel_rfl)) (fun _ _ _ h => h) (Or.inl ⟨by rfl, ?_⟩) ?_ ?_; rotate_left; (· intro w'; go_simp; with_reducible rfl); rotate_left; (· simp only [xQ, i64_w, i32_w]; rfl)
                        refine last_ (i := 21) (N := none) b57_ rfl rfl (one_of HT_.out (by kernel_rfl)) (by decide) (fun K hK => ?_)
                        refine skip_ (w1 := ?_) (by rfl) rfl ?_ ?_
                        rotate_left
                        ·
                         go_simp
                         rfl
                        refine hK.out _ _ ?_
                        clear hK K
                        refine done_ (done_of HT_.out (by kernel_rfl)) ?_
                        try go_wp2
                        (try simp only [← hl10_4])
                        go_roundg k4
                        case measure => have := HJ3.out; have := HJ10.out; have := HK3.out; have := HK4.out; omega
                        case rel => exact ⟨(y616), (wrap64 (x11_4 + (ji27))), (wrap64 (x13_4 + (ji27))), (by first | rfl | (simp; done) | (simp only [← hji27] <;> (first | rfl | simp)) | (simp [*]; done)), (by first | rfl | (simp; done) | (simp only [← hji27] <;> (first | rfl | simp)) | (simp [*]; done)), H', ⟨by have := HJ3.out; have := HJ10.out; have := HK3.out; have := HK4.out; omega⟩, ⟨by (try simp only [hl10_3]); (try simp only [hl10_4]); (with_reducible repeat (first | apply Kd.R_alloc | apply Kd.R_drewN | apply Kd.R_drew)); exact HQ42.out⟩, ⟨by repeat (first | (with_reducible first | exact HB.out | apply below_alloc | apply pw_below_drewN | apply below_drew1 | refine below_set ?_ GB40.out) | exact HB.out)⟩⟩
                       ·
                        rw [if_neg c38] at H
                        exact absurd H (by simp)
                      ·
                       rw [if_neg c36] at H
                       exact absurd H (by simp)
                     ·
                      rw [if_neg c34] at H
                      exact absurd H (by simp)
                    ·
                     rw [if_neg c32] at H
                     exact absurd H (by simp)
                   ·
                    rw [if_neg c31] at H
                    exact absurd H (by simp)
                  ·
                   rw [if_neg c29] at H
                   exact absurd H (by simp)
                 ·
                  rw [if_neg c28] at H
                  exact absurd H (by simp)
                ·
                 rw [if_neg c26] at H
                 have c26b0 : decide (x13_4 < a2) = false := decide_eq_false c26
                 clear c26
                 have H' := aM H
                 clear H
                 go_wp2
                 (try simp only [← hl10_3, ← hl10_4])
                 go_roundg k4
                 case measure => have := HJ3.out; have := HJ10.out; have := HK3.out; have := HK4.out; omega
                 case rel => exact ⟨(x10_4), (x11_4), (wrap64 (x64_3 + 1)), (by first | rfl | (simp; done) | (simp [*]; done)), (by first | rfl | (simp; done) | (simp [*]; done)), H', ⟨by have := HJ3.out; have := HJ10.out; have := HK3.out; have := HK4.out; omega⟩, ⟨by (try simp only [hl10_3]); (try simp only [hl10_4]); (with_reducible repeat (first | apply Kd.R_alloc | apply Kd.R_drewN | apply Kd.R_drew)); exact HO_10.out⟩, ⟨xB HB.out⟩⟩
             ·
              rw [if_neg c25] at H
              have c25b0 : decide (x64_3 < (y611.length : Int)) = false := decide_eq_false c25
              (try (have c25h0 := c25b0; simp only [hl10_3] at c25h0))
              clear c25
              simp only [Option.some.injEq, Prod.mk.injEq] at H
              obtain ⟨rfl, rfl⟩ := H
              go_wp2
              go_ret2
              exact ⟨_, by first | rfl | (simp [errW_none, errW_some] <;> rfl) | (simp [*, errW_none, errW_some] <;> rfl), by (with_reducible repeat (first | apply Kd.R_alloc | apply Kd.R_drewN | apply Kd.R_drew)); exact HO_10.out, xB HB.out⟩
          ·
           rw [if_neg c21] at H
           exact absurd H (by simp)
         ·
          rw [if_neg c20] at H
          exact absurd H (by simp)
end Go.Proofs.Ythaifibhflfpkaa.Q
end
section
namespace Go.Proofs.Ythaifibhflfpkaa.Q
open Go.RowKit Go.Proofs.YthaifibhflfpkaaW.PrintWords Go.Proofs.YthaifibhflfpkaaW.PrintLast Go.Proofs.YthaifibhflfpkaaW.PrintMore Go.Proofs.YthaifibhflfpkaaX
namespace Law
theorem wraps_u8 (n : Int) (h0 : 0 ≤ n) (h1 : n < 2 ^ 8) : IntKind.u8.wrap n = n := by
  show n % 256 = n
  omega
theorem shr8 (a n : Nat) (hn : n ≤ 8) : shr .u8 (a : Int) (n : Int) = ((a / 2 ^ n : Nat) : Int) := by
  unfold shr
  rw [Int.toNat_natCast, Nat.min_eq_left (show n ≤ IntKind.u8.bits from hn)]
  simp
theorem mask8 (m : Nat) (h : m ≤ 8) : (shl .u8 1 (m : Int) - 1) % 256 = ((2 ^ m - 1 : Nat) : Int) := by
  have : m = 0 ∨ m = 1 ∨ m = 2 ∨ m = 3 ∨ m = 4 ∨ m = 5 ∨ m = 6 ∨ m = 7 ∨ m = 8 := by omega
  rcases this with h | h | h | h | h | h | h | h | h <;> subst h <;> decide
theorem and8 (a m : Nat) (ha : a < 256) (h : m ≤ 8) : Go.bits .and .u8 (a : Int) ((2 ^ m - 1 : Nat) : Int) = ((a % 2 ^ m : Nat) : Int) := by
  have hp : 2 ^ m ≤ 2 ^ 8 := Nat.pow_le_pow_right (by decide) h
  have hp1 : 0 < 2 ^ m := Nat.two_pow_pos m
  rw [(Go.bits_nat .u8 8 (by decide) wraps_u8 a (2 ^ m - 1) ha (by omega)).1, Nat.and_two_pow_sub_one_eq_mod]
theorem mnN (a b : Nat) : mn (a : Int) (b : Int) = ((min a b : Nat) : Int) := by
  unfold mn
  split <;> omega
theorem bits_of (S w i x q r j m : Nat) (hx : S / 2 ^ (w * i) % 2 ^ w = x) (hp : 8 * q + r = w * i + j) (hr : r + m ≤ 8) (hj : j + m ≤ w) : S / 2 ^ (8 * q) % 256 / 2 ^ r % 2 ^ m = x / 2 ^ j % 2 ^ m := by
  have e1 : S / 2 ^ (8 * q) % 256 / 2 ^ r % 2 ^ m = S / 2 ^ (8 * q + r) % 2 ^ m := by
    have e : (256 : Nat) = 2 ^ r * 2 ^ (8 - r) := by rw [← Nat.pow_add, show r + (8 - r) = 8 by omega]
    rw [e, Nat.mod_mul_right_div_self, Nat.mod_mod_of_dvd _ (Nat.pow_dvd_pow 2 (by omega)), Nat.div_div_eq_div_mul, ← Nat.pow_add]
  have e2 : x / 2 ^ j % 2 ^ m = S / 2 ^ (w * i + j) % 2 ^ m := by
    have e : (2 : Nat) ^ w = 2 ^ j * 2 ^ (w - j) := by rw [← Nat.pow_add, show j + (w - j) = w by omega]
    rw [← hx, e, Nat.mod_mul_right_div_self, Nat.mod_mod_of_dvd _ (Nat.pow_dvd_pow 2 (by omega)), Nat.div_div_eq_div_mul, ← Nat.pow_add]
  rw [e1, e2, hp]
theorem set_mid (p r : List Int) (x y : Int) (n : Nat) (h : n = p.length) : (p ++ x :: r).set n y = p ++ y :: r := by
  subst h
  rw [List.set_append_right _ _ (Nat.le_refl _), Nat.sub_self]
  rfl
theorem rd_mid (p r : List Int) (x : Int) (n : Nat) (h : n = p.length) : rd (p ++ x :: r) (n : Int) = x := by
  subst h
  rw [rd_nat, List.getD_eq_getElem?_getD, List.getElem?_append_right (Nat.le_refl _), Nat.sub_self]
  rfl
theorem unpack_in (w : Nat) (a : List Nat) (hw : w ≤ 64) (hl : a.length ≤ 32) (hb : ∀ x ∈ a, x < 2 ^ w) (p : List Nat) (x : Nat) (i : Nat) (hp : p.length = i) (hx : a[i]? = some x) (mm : Nat) (n : Nat) (hn : n = a.length) (hmm : i + 1 + mm = n) {R : List Int × Int}
    (hk : Ev (fun k => bits_Unpack.l0 k (le (sumw w a) ((w * n + 7) / 8)) (w : Int) (ints p ++ (x : Int) :: List.replicate mm 0) ((w * i + w : Nat) : Int) (n : Int) ((i + 1 : Nat) : Int)) R) :
    ∀ (d j : Nat), j + d = w → Ev (fun k => bits_Unpack.l1 k (le (sumw w a) ((w * n + 7) / 8)) (w : Int) (ints p ++ ((x % 2 ^ j : Nat) : Int) :: List.replicate mm 0) ((w * i + j : Nat) : Int) (i : Int) (j : Int) (n : Int) (i : Int)) R := by
  intro d
  induction d using Nat.strongRecOn with
  | ind d ih =>
    intro j hj
    have hxb : x < 2 ^ w := hb x (List.mem_of_getElem? hx)
    have hi : i < a.length := by
      rcases Nat.lt_or_ge i a.length with h | h
      · exact h
      · rw [List.getElem?_eq_none h] at hx
        cases hx
    by_cases h : j < w
    · have hpl := place i w j (by omega) hw (by omega)
      have hpl2 := hpl.2
      clear hpl
      have hwn : w * i + w ≤ w * n := by
        rw [← Nat.mul_succ]
        exact Nat.mul_le_mul_left w (by omega)
      have hwn2 : w * n ≤ 64 * 32 := Nat.mul_le_mul hw (by omega)
      obtain ⟨q, hq⟩ : ∃ q, q = (w * i + j) / 8 := ⟨_, rfl⟩
      obtain ⟨r, hr⟩ : ∃ r, r = (w * i + j) % 8 := ⟨_, rfl⟩
      have hT1 : Hid (wrap64 (Int.tdiv ((w * i + j : Nat) : Int) 8) = ((q : Nat) : Int)) := Lib.hid (by rw [hq]; exact (tdiv8 _ (by omega)).1)
      have hT2 : Hid (Int.tmod ((w * i + j : Nat) : Int) 8 = ((r : Nat) : Int)) := Lib.hid (by rw [hr]; exact (tdiv8 _ (by omega)).2)
      obtain ⟨m, hm⟩ : ∃ m, m = min (w - j) (8 - r) := ⟨_, rfl⟩
      have hr8 : r < 8 := by omega
      have hqr : 8 * q + r = w * i + j := by omega
      have hm1 : 1 ≤ m := by omega
      have hm2 : r + m ≤ 8 := by omega
      have hm3 : j + m ≤ w := by omega
      have ih' := ih (d - m) (by omega) (j + m) (by omega)
      have hS : sumw w a / 2 ^ (w * i) % 2 ^ w = x := by
        rw [sumw_at w a i hb, List.getD_eq_getElem?_getD, hx]
        rfl
      have hbo := bits_of (sumw w a) w i x q r j m hS hqr hm2 hm3
      have hrd := rd_le ((w * n + 7) / 8) (sumw w a) q (by omega)
      have hM : Hid (mn (wrap64 ((w : Int) - (j : Int))) (wrap64 (8 - (r : Int))) = ((m : Nat) : Int)) := by
        refine Lib.hid ?_
        rw [w64_sub w j (by omega) (by omega), show (8 : Int) = ((8 : Nat) : Int) by rfl, w64_sub 8 r (by omega) (by omega), mnN, hm]
      have hx1 : x % 2 ^ j < 2 ^ j := Nat.mod_lt _ (Nat.two_pow_pos _)
      have hx2 : x % 2 ^ (j + m) = x % 2 ^ j + 2 ^ j * (x / 2 ^ j % 2 ^ m) := by rw [Nat.pow_add, Nat.mod_mul]
      have hx3 : x % 2 ^ (j + m) < 2 ^ (j + m) := Nat.mod_lt _ (Nat.two_pow_pos _)
      have p64 : (2 : Nat) ^ (j + m) ≤ 2 ^ 64 := Nat.pow_le_pow_right (by decide) (by omega)
      have p64' : (2 : Nat) ^ j ≤ 2 ^ 64 := Nat.pow_le_pow_right (by decide) (by omega)
      have hc : x / 2 ^ j % 2 ^ m * 2 ^ j < 2 ^ 64 := by
        rw [Nat.mul_comm]
        omega
      have hu : x / 2 ^ j % 2 ^ m < 2 ^ 64 := Nat.lt_of_le_of_lt (Nat.le_mul_of_pos_right _ (Nat.two_pow_pos j)) hc
      have hbyte : sumw w a / 2 ^ (8 * q) % 256 / 2 ^ r < 256 := Nat.lt_of_le_of_lt (Nat.div_le_self _ _) (Nat.mod_lt _ (by decide))
      have HV : Hid (Go.bits .or .u64 ((x % 2 ^ j : Nat) : Int) (shl .u64 (IntKind.u64.wrap (Go.bits .and .u8 (shr .u8 ((sumw w a / 2 ^ (8 * q) % 256 : Nat) : Int) (r : Int)) ((shl .u8 1 (m : Int) - 1) % 256))) (j : Int)) = ((x % 2 ^ (j + m) : Nat) : Int)) := by
        refine Lib.hid ?_
        rw [shr8 _ r (by omega), mask8 m (by omega), and8 _ m hbyte (by omega), hbo, wrapu _ (by omega), shl_nat _ _ (by omega) hc]
        rw [or_join .u64 64 (by decide) wraps_u64 j _ _ (by omega) (by
          have : x / 2 ^ j % 2 ^ m * 2 ^ j % 2 ^ j = 0 := Nat.mul_mod_left _ _
          exact_mod_cast this) (by exact_mod_cast hc) (by omega) (by exact_mod_cast hx1) (by
          have : x % 2 ^ j < 2 ^ 64 := by omega
          exact_mod_cast this)]
        rw [hx2, Int.natCast_add, Nat.mul_comm (2 ^ j)]
      have HP1 := Lib.hid (w64_add (w * i + j) m (by omega) (by omega))
      have HP2 := Lib.hid (w64_add j m (by omega) (by omega))
      clear hbo hx1 hx2 hx3 p64 p64' hc hu hbyte hS
      have hpi : i = (ints p).length := by rw [ints_length, hp]
      refine Ev.step (fun k => by rw [bits_Unpack.l1, hT1.out, hT2.out, hM.out, hrd, rd_mid _ _ _ i hpi, HV.out, Int.toNat_natCast, set_mid _ _ _ _ i hpi, HP1.out, HP2.out]) ?_
      refine Ev.pos (by omega) (Ev.pos (by omega) (Ev.pos (by simp [ints_length]; omega) (Ev.pos (by omega) (Ev.pos (by rw [le_length]; omega) (Ev.pos (by omega) (Ev.pos (by omega) (Ev.pos (by omega) ?_)))))))
      rw [Nat.add_assoc]
      exact ih'
    · have e : j = w := by omega
      subst e
      refine Ev.step (fun k => by rw [bits_Unpack.l1, w64_succ i (by omega)]) ?_
      refine Ev.neg (by omega) ?_
      rw [Nat.mod_eq_of_lt hxb]
      exact hk
theorem unpack_out (w : Nat) (a : List Nat) (hw : w ≤ 64) (hl : a.length ≤ 32) (hb : ∀ x ∈ a, x < 2 ^ w) (n : Nat) (hn : n = a.length) : ∀ (r p : List Nat) (i : Nat), a = p ++ r → p.length = i → Ev (fun k => bits_Unpack.l0 k (le (sumw w a) ((w * n + 7) / 8)) (w : Int) (ints p ++ List.replicate r.length 0) ((w * i : Nat) : Int) (n : Int) (i : Int)) (ints a, 0)
  | [], p, i, ha, hp => by
    refine Ev.step (fun k => by rw [bits_Unpack.l0]) ?_
    rw [List.append_nil] at ha
    subst ha
    refine Ev.neg (by omega) ?_
    rw [List.length_nil, List.replicate_zero, List.append_nil]
    exact Ev.now _
  | x :: r, p, i, ha, hp => by
    have hL : a.length = p.length + (r.length + 1) := by rw [ha]; simp
    have ih := unpack_out w a hw hl hb n hn r (p ++ [x]) (i + 1) (by rw [ha]; simp) (by simp [hp])
    have hx : a[i]? = some x := by
      rw [ha, List.getElem?_append_right (by omega), hp, Nat.sub_self]
      rfl
    rw [ints_snoc, List.append_assoc, Nat.mul_succ] at ih
    have h1 := unpack_in w a hw hl hb p x i hp hx r.length n hn (by omega) ih w 0 (by omega)
    refine Ev.step (fun k => by rw [bits_Unpack.l0]) ?_
    refine Ev.pos (by omega) ?_
    rw [Nat.pow_zero, Nat.mod_one, Nat.add_zero] at h1
    exact h1
theorem tmod8 (n : Nat) : Int.tmod (n : Int) 8 = ((n % 8 : Nat) : Int) := by
  rw [Int.tmod_eq_emod_of_nonneg (by omega)]
  omega
theorem unpack (w : Nat) (a : List Nat) (hw : w ≤ 64) (hl : a.length ≤ 32) (hb : ∀ x ∈ a, x < 2 ^ w) : Ev (fun k => bits_Unpack.f k (le (sumw w a) ((w * a.length + 7) / 8)) (a.length : Int) (w : Int)) (ints a, 0) := by
  obtain ⟨n, hn⟩ : ∃ n, n = a.length := ⟨_, rfl⟩
  obtain ⟨B, hB⟩ : ∃ B, B = le (sumw w a) ((w * n + 7) / 8) := ⟨_, rfl⟩
  have hz := unpack_out w a hw hl hb n hn a [] 0 rfl rfl
  have hwn2 : n * w ≤ 32 * 64 := Nat.mul_le_mul (by omega) hw
  have hc : n * w = w * n := Nat.mul_comm _ _
  have w1 : Hid (wrap64 ((n : Int) * (w : Int)) = ((w * n : Nat) : Int)) := Lib.hid (w64_nat _ _ (by rw [Nat.mul_comm w n]; simp) (by omega))
  have w2 : Hid (wrap64 (((w * n : Nat) : Int) + 7) = ((w * n + 7 : Nat) : Int)) := Lib.hid (w64_nat _ _ (by simp) (by omega))
  have w3 := Lib.hid (tdiv8 (w * n + 7) (by omega)).1
  have w4 := Lib.hid (tmod8 (w * n))
  have hBl : B.length = (w * n + 7) / 8 := by rw [hB, le_length]
  rw [← hn, ← hB]
  rw [← hB] at hz
  have hrun : Ev (fun k => bits_Unpack.j1 k B (n : Int) (w : Int) false) (ints a, 0) := by
    refine Ev.step (fun k => by rw [bits_Unpack.j1, Int.toNat_natCast]) ?_
    refine Ev.neg (by decide) (Ev.pos (by omega) (Ev.pos (by omega) (Ev.get rfl ?_)))
    rw [List.length_replicate]
    rw [← hn] at hz
    simpa [ints] using hz
  have h0 : Ev (fun k => bits_Unpack.j0 k B (n : Int) (w : Int) false) (ints a, 0) := by
    refine Ev.step (fun k => by rw [bits_Unpack.j0, w1.out, w2.out, w3.out, w4.out, hBl]) ?_
    refine Ev.neg (by decide) (Ev.neg (by omega) (Ev.neg (by omega) ?_))
    by_cases hr : 0 < w * n % 8
    · obtain ⟨q, hq⟩ : ∃ q, q = (w * n + 7) / 8 - 1 := ⟨_, rfl⟩
      have w5 := Lib.hid (w64_nat ((((w * n + 7) / 8 : Nat) : Int) - 1) q (by omega) (by omega))
      refine Ev.pos (by omega) ?_
      rw [w5.out]
      refine Ev.pos (by omega) (Ev.pos (by omega) (Ev.pos (by omega) ?_))
      have hrd : rd B (q : Int) = ((sumw w a / 2 ^ (8 * q) % 256 : Nat) : Int) := by rw [hB, rd_le _ _ _ (by omega)]
      have hS := sumw_lt w a hb
      rw [← hn] at hS
      have hz0 : sumw w a / 2 ^ (8 * q) % 256 / 2 ^ (w * n % 8) = 0 := by
        have h1 : sumw w a / 2 ^ (8 * q) < 2 ^ (w * n % 8) := by
          rw [Nat.div_lt_iff_lt_mul (Nat.two_pow_pos _), ← Nat.pow_add, show w * n % 8 + 8 * q = w * n by omega]
          exact hS
        exact Nat.div_eq_of_lt (Nat.lt_of_le_of_lt (Nat.mod_le _ _) h1)
      rw [hrd, shr8 _ _ (by omega), hz0]
      exact hrun
    · exact Ev.neg (by omega) hrun
  unfold bits_Unpack.f
  refine Ev.neg (by omega) (Ev.neg (by omega) (Ev.neg (by omega) ?_))
  rw [decide_eq_false (by omega)]
  exact h0
end Law
end Go.Proofs.Ythaifibhflfpkaa.Q
end
