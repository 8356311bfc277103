/- A part of the claim's own texts: words, walks and plain laws. -/
import Derived.Test.YthaifibhflfpkaaTp2
section
namespace Go.Proofs.Ythaifibhflfpkaa.Q
open Go.RowKit Go.Proofs.YthaifibhflfpkaaW.PrintWords Go.Proofs.YthaifibhflfpkaaW.PrintLast Go.Proofs.YthaifibhflfpkaaW.PrintMore Go.Proofs.YthaifibhflfpkaaX
attribute [local go_sem] max2_int min2_int max_two min_two max_three min_three max_four min_four   -- for this text's walks alone
set_option linter.unusedVariables false
set_option linter.unusedSimpArgs false
def r05_four.f (l0 : List Int) (a1 : Int) (a2 : Int) : Option (Bool) := if 0 ≤ a1 then (if a1 < (l0.length : Int) then (if 0 ≤ a2 then (if a2 < (l0.length : Int) then (if (rd l0 a1) = (rd l0 a2) then (if 0 ≤ (wrap64 (a1 + 1)) then (if (wrap64 (a1 + 1)) < (l0.length : Int) then (if 0 ≤ (wrap64 (a2 + 1)) then (if (wrap64 (a2 + 1)) < (l0.length : Int) then (if (rd l0 (wrap64 (a1 + 1))) = (rd l0 (wrap64 (a2 + 1))) then (if 0 ≤ (wrap64 (a1 + 2)) then (if (wrap64 (a1 + 2)) < (l0.length : Int) then (if 0 ≤ (wrap64 (a2 + 2)) then (if (wrap64 (a2 + 2)) < (l0.length : Int) then (if (rd l0 (wrap64 (a1 + 2))) = (rd l0 (wrap64 (a2 + 2))) then (if 0 ≤ (wrap64 (a1 + 3)) then (if (wrap64 (a1 + 3)) < (l0.length : Int) then (if 0 ≤ (wrap64 (a2 + 3)) then (if (wrap64 (a2 + 3)) < (l0.length : Int) then (some ((rd l0 (wrap64 (a1 + 3))) == (rd l0 (wrap64 (a2 + 3))))) else (none)) else (none)) else (none)) else (none)) else (some false)) else (none)) else (none)) else (none)) else (none)) else (some false)) else (none)) else (none)) else (none)) else (none)) else (some false)) else (none)) else (none)) else (none)) else (none)
set_option maxHeartbeats 8000000 in
set_option maxRecDepth 100000 in
theorem r05_four.calls (A0 : Option Addr) (c0 : Nat) (l0 : List Int) (a1 : Int) (a2 : Int) (r : Bool) (w : World) (hr0 : Kd.C (Kd.int .u8) w A0 l0.length l0) (hc0 : l0.length ≤ c0) (h : r05_four.f l0 a1 a2 = some r) :
  Calls Try.prog 81 #[.slice A0 l0.length c0, .int .i64 a1, .int .i64 a2] w fun e w' => e = .returned (.bool r) ∧ Drawn0 w w' := by
 have HR0 := aM hr0
 have HC0 := aM hc0
 clear hr0 hc0
 have H : (if 0 ≤ a1 then (if a1 < (l0.length : Int) then (if 0 ≤ a2 then (if a2 < (l0.length : Int) then (if (rd l0 a1) = (rd l0 a2) then (if 0 ≤ (wrap64 (a1 + 1)) then (if (wrap64 (a1 + 1)) < (l0.length : Int) then (if 0 ≤ (wrap64 (a2 + 1)) then (if (wrap64 (a2 + 1)) < (l0.length : Int) then (if (rd l0 (wrap64 (a1 + 1))) = (rd l0 (wrap64 (a2 + 1))) then (if 0 ≤ (wrap64 (a1 + 2)) then (if (wrap64 (a1 + 2)) < (l0.length : Int) then (if 0 ≤ (wrap64 (a2 + 2)) then (if (wrap64 (a2 + 2)) < (l0.length : Int) then (if (rd l0 (wrap64 (a1 + 2))) = (rd l0 (wrap64 (a2 + 2))) then (if 0 ≤ (wrap64 (a1 + 3)) then (if (wrap64 (a1 + 3)) < (l0.length : Int) then (if 0 ≤ (wrap64 (a2 + 3)) then (if (wrap64 (a2 + 3)) < (l0.length : Int) then (some ((rd l0 (wrap64 (a1 + 3))) == (rd l0 (wrap64 (a2 + 3))))) else (none)) else (none)) else (none)) else (none)) else (some false)) else (none)) else (none)) else (none)) else (none)) else (some false)) else (none)) else (none)) else (none)) else (none)) else (some false)) else (none)) else (none)) else (none)) else (none)) = some r := h
 clear h
 by_cases c4 : 0 ≤ a1
 ·
  rw [if_pos c4] at H
  have c4b0 : decide (0 ≤ a1) = true := decide_eq_true c4
  clear c4
  by_cases c5 : a1 < (l0.length : Int)
  ·
   rw [if_pos c5] at H
   have c5b0 : decide (a1 < (l0.length : Int)) = true := decide_eq_true c5
   clear c5
   by_cases c6 : 0 ≤ a2
   ·
    rw [if_pos c6] at H
    have c6b0 : decide (0 ≤ a2) = true := decide_eq_true c6
    clear c6
    by_cases c7 : a2 < (l0.length : Int)
    ·
     rw [if_pos c7] at H
     have c7b0 : decide (a2 < (l0.length : Int)) = true := decide_eq_true c7
     clear c7
     by_cases c8 : (rd l0 a1) = (rd l0 a2)
     ·
      rw [if_pos c8] at H
      have c8b0 : ((rd l0 a1) == (rd l0 a2)) = true := beq_iff_eq.mpr c8
      have c8b1 : ((rd l0 a1) != (rd l0 a2)) = false := bne_eq_false_iff_eq.mpr c8
      clear c8
      obtain ⟨ji9, hji9⟩ : ∃ j_ : Int, (wrap64 (a1 + 1)) = j_ := ⟨_, rfl⟩
      replace H : (if 0 ≤ (ji9) then (if (ji9) < (l0.length : Int) then (if 0 ≤ (wrap64 (a2 + 1)) then (if (wrap64 (a2 + 1)) < (l0.length : Int) then (if (rd l0 (ji9)) = (rd l0 (wrap64 (a2 + 1))) then (if 0 ≤ (wrap64 (a1 + 2)) then (if (wrap64 (a1 + 2)) < (l0.length : Int) then (if 0 ≤ (wrap64 (a2 + 2)) then (if (wrap64 (a2 + 2)) < (l0.length : Int) then (if (rd l0 (wrap64 (a1 + 2))) = (rd l0 (wrap64 (a2 + 2))) then (if 0 ≤ (wrap64 (a1 + 3)) then (if (wrap64 (a1 + 3)) < (l0.length : Int) then (if 0 ≤ (wrap64 (a2 + 3)) then (if (wrap64 (a2 + 3)) < (l0.length : Int) then (some ((rd l0 (wrap64 (a1 + 3))) == (rd l0 (wrap64 (a2 + 3))))) else (none)) else (none)) else (none)) else (none)) else (some false)) else (none)) else (none)) else (none)) else (none)) else (some false)) else (none)) else (none)) else (none)) else (none)) = some r := by first | (rw [hji9] at H; exact H) | (simp only [hji9] at H ⊢; exact H)
      have hji9w : (IntKind.i64.wrap (a1 + 1)) = ji9 := (i64_w _).trans hji9
      by_cases c10 : 0 ≤ (ji9)
      ·
       rw [if_pos c10] at H
       have c10b0 : decide (0 ≤ (ji9)) = true := decide_eq_true c10
       clear c10
       by_cases c11 : (ji9) < (l0.length : Int)
       ·
        rw [if_pos c11] at H
        have c11b0 : decide ((ji9) < (l0.length : Int)) = true := decide_eq_true c11
        clear c11
        obtain ⟨ji12, hji12⟩ : ∃ j_ : Int, (wrap64 (a2 + 1)) = j_ := ⟨_, rfl⟩
        replace H : (if 0 ≤ (ji12) then (if (ji12) < (l0.length : Int) then (if (rd l0 (ji9)) = (rd l0 (ji12)) then (if 0 ≤ (wrap64 (a1 + 2)) then (if (wrap64 (a1 + 2)) < (l0.length : Int) then (if 0 ≤ (wrap64 (a2 + 2)) then (if (wrap64 (a2 + 2)) < (l0.length : Int) then (if (rd l0 (wrap64 (a1 + 2))) = (rd l0 (wrap64 (a2 + 2))) then (if 0 ≤ (wrap64 (a1 + 3)) then (if (wrap64 (a1 + 3)) < (l0.length : Int) then (if 0 ≤ (wrap64 (a2 + 3)) then (if (wrap64 (a2 + 3)) < (l0.length : Int) then (some ((rd l0 (wrap64 (a1 + 3))) == (rd l0 (wrap64 (a2 + 3))))) else (none)) else (none)) else (none)) else (none)) else (some false)) else (none)) else (none)) else (none)) else (none)) else (some false)) else (none)) else (none)) = some r := by first | (rw [hji12] at H; exact H) | (simp only [hji12] at H ⊢; exact H)
        have hji12w : (IntKind.i64.wrap (a2 + 1)) = ji12 := (i64_w _).trans hji12
        by_cases c13 : 0 ≤ (ji12)
        ·
         rw [if_pos c13] at H
         have c13b0 : decide (0 ≤ (ji12)) = true := decide_eq_true c13
         clear c13
         by_cases c14 : (ji12) < (l0.length : Int)
         ·
          rw [if_pos c14] at H
          have c14b0 : decide ((ji12) < (l0.length : Int)) = true := decide_eq_true c14
          clear c14
          by_cases c15 : (rd l0 (ji9)) = (rd l0 (ji12))
          ·
           rw [if_pos c15] at H
           have c15b0 : ((rd l0 (ji9)) == (rd l0 (ji12))) = true := beq_iff_eq.mpr c15
           have c15b1 : ((rd l0 (ji9)) != (rd l0 (ji12))) = false := bne_eq_false_iff_eq.mpr c15
           clear c15
           obtain ⟨ji16, hji16⟩ : ∃ j_ : Int, (wrap64 (a1 + 2)) = j_ := ⟨_, rfl⟩
           replace H : (if 0 ≤ (ji16) then (if (ji16) < (l0.length : Int) then (if 0 ≤ (wrap64 (a2 + 2)) then (if (wrap64 (a2 + 2)) < (l0.length : Int) then (if (rd l0 (ji16)) = (rd l0 (wrap64 (a2 + 2))) then (if 0 ≤ (wrap64 (a1 + 3)) then (if (wrap64 (a1 + 3)) < (l0.length : Int) then (if 0 ≤ (wrap64 (a2 + 3)) then (if (wrap64 (a2 + 3)) < (l0.length : Int) then (some ((rd l0 (wrap64 (a1 + 3))) == (rd l0 (wrap64 (a2 + 3))))) else (none)) else (none)) else (none)) else (none)) else (some false)) else (none)) else (none)) else (none)) else (none)) = some r := by first | (rw [hji16] at H; exact H) | (simp only [hji16] at H ⊢; exact H)
           have hji16w : (IntKind.i64.wrap (a1 + 2)) = ji16 := (i64_w _).trans hji16
           by_cases c17 : 0 ≤ (ji16)
           ·
            rw [if_pos c17] at H
            have c17b0 : decide (0 ≤ (ji16)) = true := decide_eq_true c17
            clear c17
            by_cases c18 : (ji16) < (l0.length : Int)
            ·
             rw [if_pos c18] at H
             have c18b0 : decide ((ji16) < (l0.length : Int)) = true := decide_eq_true c18
             clear c18
             obtain ⟨ji19, hji19⟩ : ∃ j_ : Int, (wrap64 (a2 + 2)) = j_ := ⟨_, rfl⟩
             replace H : (if 0 ≤ (ji19) then (if (ji19) < (l0.length : Int) then (if (rd l0 (ji16)) = (rd l0 (ji19)) then (if 0 ≤ (wrap64 (a1 + 3)) then (if (wrap64 (a1 + 3)) < (l0.length : Int) then (if 0 ≤ (wrap64 (a2 + 3)) then (if (wrap64 (a2 + 3)) < (l0.length : Int) then (some ((rd l0 (wrap64 (a1 + 3))) == (rd l0 (wrap64 (a2 + 3))))) else (none)) else (none)) else (none)) else (none)) else (some false)) else (none)) else (none)) = some r := by first | (rw [hji19] at H; exact H) | (simp only [hji19] at H ⊢; exact H)
             have hji19w : (IntKind.i64.wrap (a2 + 2)) = ji19 := (i64_w _).trans hji19
             by_cases c20 : 0 ≤ (ji19)
             ·
              rw [if_pos c20] at H
              have c20b0 : decide (0 ≤ (ji19)) = true := decide_eq_true c20
              clear c20
              by_cases c21 : (ji19) < (l0.length : Int)
              ·
               rw [if_pos c21] at H
               have c21b0 : decide ((ji19) < (l0.length : Int)) = true := decide_eq_true c21
               clear c21
               by_cases c22 : (rd l0 (ji16)) = (rd l0 (ji19))
               ·
                rw [if_pos c22] at H
                have c22b0 : ((rd l0 (ji16)) == (rd l0 (ji19))) = true := beq_iff_eq.mpr c22
                have c22b1 : ((rd l0 (ji16)) != (rd l0 (ji19))) = false := bne_eq_false_iff_eq.mpr c22
                clear c22
                obtain ⟨ji23, hji23⟩ : ∃ j_ : Int, (wrap64 (a1 + 3)) = j_ := ⟨_, rfl⟩
                replace H : (if 0 ≤ (ji23) then (if (ji23) < (l0.length : Int) then (if 0 ≤ (wrap64 (a2 + 3)) then (if (wrap64 (a2 + 3)) < (l0.length : Int) then (some ((rd l0 (ji23)) == (rd l0 (wrap64 (a2 + 3))))) else (none)) else (none)) else (none)) else (none)) = some r := by first | (rw [hji23] at H; exact H) | (simp only [hji23] at H ⊢; exact H)
                have hji23w : (IntKind.i64.wrap (a1 + 3)) = ji23 := (i64_w _).trans hji23
                by_cases c24 : 0 ≤ (ji23)
                ·
                 rw [if_pos c24] at H
                 have c24b0 : decide (0 ≤ (ji23)) = true := decide_eq_true c24
                 clear c24
                 by_cases c25 : (ji23) < (l0.length : Int)
                 ·
                  rw [if_pos c25] at H
                  have c25b0 : decide ((ji23) < (l0.length : Int)) = true := decide_eq_true c25
                  clear c25
                  obtain ⟨ji26, hji26⟩ : ∃ j_ : Int, (wrap64 (a2 + 3)) = j_ := ⟨_, rfl⟩
                  replace H : (if 0 ≤ (ji26) then (if (ji26) < (l0.length : Int) then (some ((rd l0 (ji23)) == (rd l0 (ji26)))) else (none)) else (none)) = some r := by first | (rw [hji26] at H; exact H) | (simp only [hji26] at H ⊢; exact H)
                  have hji26w : (IntKind.i64.wrap (a2 + 3)) = ji26 := (i64_w _).trans hji26
                  by_cases c27 : 0 ≤ (ji26)
                  ·
                   rw [if_pos c27] at H
                   have c27b0 : decide (0 ≤ (ji26)) = true := decide_eq_true c27
                   clear c27
                   by_cases c28 : (ji26) < (l0.length : Int)
                   ·
                    rw [if_pos c28] at H
                    have c28b0 : decide ((ji26) < (l0.length : Int)) = true := decide_eq_true c28
                    clear c28
                    obtain rfl := Option.some.inj H
                    have p296 : 0 ≤ (a1 : Int) := of_decide_eq_true (by first | (with_reducible assumption) | assumption)
                    have q296 : a1 < (l0.length : Int) := of_decide_eq_true (by first | (with_reducible assumption) | assumption)
                    obtain ⟨ad296, e296, hx296_0⟩ := Kd.at_int HR0.out a1 p296 q296
                    cases e296
                    replace p296 := eq_true p296
                    replace q296 := eq_true q296
                    have p297 : 0 ≤ (a2 : Int) := of_decide_eq_true (by first | (with_reducible assumption) | assumption)
                    have q297 : a2 < (l0.length : Int) := of_decide_eq_true (by first | (with_reducible assumption) | assumption)
                    obtain ⟨ad297, e297, hx297_0⟩ := Kd.at_int HR0.out a2 p297 q297
                    obtain rfl : ad296 = ad297 := (by injection e297)
                    replace p297 := eq_true p297
                    replace q297 := eq_true q297
                    have p298 : 0 ≤ ((ji9) : Int) := of_decide_eq_true (by first | (with_reducible assumption) | assumption)
                    have q298 : (ji9) < (l0.length : Int) := of_decide_eq_true (by first | (with_reducible assumption) | assumption)
                    obtain ⟨ad298, e298, hx298_0⟩ := Kd.at_int HR0.out (ji9) p298 q298
                    obtain rfl : ad296 = ad298 := (by injection e298)
                    replace p298 := eq_true p298
                    replace q298 := eq_true q298
                    have p299 : 0 ≤ ((ji12) : Int) := of_decide_eq_true (by first | (with_reducible assumption) | assumption)
                    have q299 : (ji12) < (l0.length : Int) := of_decide_eq_true (by first | (with_reducible assumption) | assumption)
                    obtain ⟨ad299, e299, hx299_0⟩ := Kd.at_int HR0.out (ji12) p299 q299
                    obtain rfl : ad296 = ad299 := (by injection e299)
                    replace p299 := eq_true p299
                    replace q299 := eq_true q299
                    have p300 : 0 ≤ ((ji16) : Int) := of_decide_eq_true (by first | (with_reducible assumption) | assumption)
                    have q300 : (ji16) < (l0.length : Int) := of_decide_eq_true (by first | (with_reducible assumption) | assumption)
                    obtain ⟨ad300, e300, hx300_0⟩ := Kd.at_int HR0.out (ji16) p300 q300
                    obtain rfl : ad296 = ad300 := (by injection e300)
                    replace p300 := eq_true p300
                    replace q300 := eq_true q300
                    have p301 : 0 ≤ ((ji19) : Int) := of_decide_eq_true (by first | (with_reducible assumption) | assumption)
                    have q301 : (ji19) < (l0.length : Int) := of_decide_eq_true (by first | (with_reducible assumption) | assumption)
                    obtain ⟨ad301, e301, hx301_0⟩ := Kd.at_int HR0.out (ji19) p301 q301
                    obtain rfl : ad296 = ad301 := (by injection e301)
                    replace p301 := eq_true p301
                    replace q301 := eq_true q301
                    have p302 : 0 ≤ ((ji23) : Int) := of_decide_eq_true (by first | (with_reducible assumption) | assumption)
                    have q302 : (ji23) < (l0.length : Int) := of_decide_eq_true (by first | (with_reducible assumption) | assumption)
                    obtain ⟨ad302, e302, hx302_0⟩ := Kd.at_int HR0.out (ji23) p302 q302
                    obtain rfl : ad296 = ad302 := (by injection e302)
                    replace p302 := eq_true p302
                    replace q302 := eq_true q302
                    have p303 : 0 ≤ ((ji26) : Int) := of_decide_eq_true (by first | (with_reducible assumption) | assumption)
                    have q303 : (ji26) < (l0.length : Int) := of_decide_eq_true (by first | (with_reducible assumption) | assumption)
                    obtain ⟨ad303, e303, hx303_0⟩ := Kd.at_int HR0.out (ji26) p303 q303
                    obtain rfl : ad296 = ad303 := (by injection e303)
                    replace p303 := eq_true p303
                    replace q303 := eq_true q303
                    go_enter Try.func81, Try.ntmps81
                    go_wp2
                    repeat (go_quiet (fail); try go_wp2)
                    go_ret
                    exact ⟨by first | rfl | (simp; done) | (simp only [← hji9, ← hji12, ← hji16, ← hji19, ← hji23, ← hji26] <;> (first | rfl | simp)) | (simp [*]; done), by repeat (first | exact Drawn0.refl _ | apply Drawn0.step)⟩
                   ·
                    rw [if_neg c28] at H
                    exact absurd H (by simp)
                  ·
                   rw [if_neg c27] at H
                   exact absurd H (by simp)
                 ·
                  rw [if_neg c25] at H
                  exact absurd H (by simp)
                ·
                 rw [if_neg c24] at H
                 exact absurd H (by simp)
               ·
                rw [if_neg c22] at H
                have c22b0 : ((rd l0 (ji16)) == (rd l0 (ji19))) = false := beq_eq_false_iff_ne.mpr c22
                have c22b1 : ((rd l0 (ji16)) != (rd l0 (ji19))) = true := bne_iff_ne.mpr c22
                obtain rfl := Option.some.inj H
                have p296 : 0 ≤ (a1 : Int) := of_decide_eq_true (by first | (with_reducible assumption) | assumption)
                have q296 : a1 < (l0.length : Int) := of_decide_eq_true (by first | (with_reducible assumption) | assumption)
                obtain ⟨ad296, e296, hx296_0⟩ := Kd.at_int HR0.out a1 p296 q296
                cases e296
                replace p296 := eq_true p296
                replace q296 := eq_true q296
                have p297 : 0 ≤ (a2 : Int) := of_decide_eq_true (by first | (with_reducible assumption) | assumption)
                have q297 : a2 < (l0.length : Int) := of_decide_eq_true (by first | (with_reducible assumption) | assumption)
                obtain ⟨ad297, e297, hx297_0⟩ := Kd.at_int HR0.out a2 p297 q297
                obtain rfl : ad296 = ad297 := (by injection e297)
                replace p297 := eq_true p297
                replace q297 := eq_true q297
                have p298 : 0 ≤ ((ji9) : Int) := of_decide_eq_true (by first | (with_reducible assumption) | assumption)
                have q298 : (ji9) < (l0.length : Int) := of_decide_eq_true (by first | (with_reducible assumption) | assumption)
                obtain ⟨ad298, e298, hx298_0⟩ := Kd.at_int HR0.out (ji9) p298 q298
                obtain rfl : ad296 = ad298 := (by injection e298)
                replace p298 := eq_true p298
                replace q298 := eq_true q298
                have p299 : 0 ≤ ((ji12) : Int) := of_decide_eq_true (by first | (with_reducible assumption) | assumption)
                have q299 : (ji12) < (l0.length : Int) := of_decide_eq_true (by first | (with_reducible assumption) | assumption)
                obtain ⟨ad299, e299, hx299_0⟩ := Kd.at_int HR0.out (ji12) p299 q299
                obtain rfl : ad296 = ad299 := (by injection e299)
                replace p299 := eq_true p299
                replace q299 := eq_true q299
                have p300 : 0 ≤ ((ji16) : Int) := of_decide_eq_true (by first | (with_reducible assumption) | assumption)
                have q300 : (ji16) < (l0.length : Int) := of_decide_eq_true (by first | (with_reducible assumption) | assumption)
                obtain ⟨ad300, e300, hx300_0⟩ := Kd.at_int HR0.out (ji16) p300 q300
                obtain rfl : ad296 = ad300 := (by injection e300)
                replace p300 := eq_true p300
                replace q300 := eq_true q300
                have p301 : 0 ≤ ((ji19) : Int) := of_decide_eq_true (by first | (with_reducible assumption) | assumption)
                have q301 : (ji19) < (l0.length : Int) := of_decide_eq_true (by first | (with_reducible assumption) | assumption)
                obtain ⟨ad301, e301, hx301_0⟩ := Kd.at_int HR0.out (ji19) p301 q301
                obtain rfl : ad296 = ad301 := (by injection e301)
                replace p301 := eq_true p301
                replace q301 := eq_true q301
                go_enter Try.func81, Try.ntmps81
                go_wp2
                repeat (go_quiet (fail); try go_wp2)
                go_ret
                exact ⟨by first | rfl | (simp; done) | (simp only [← hji9, ← hji12, ← hji16, ← hji19] <;> (first | rfl | simp)) | (simp [*]; done), by repeat (first | exact Drawn0.refl _ | apply Drawn0.step)⟩
              ·
               rw [if_neg c21] at H
               exact absurd H (by simp)
             ·
              rw [if_neg c20] at H
              exact absurd H (by simp)
            ·
             rw [if_neg c18] at H
             exact absurd H (by simp)
           ·
            rw [if_neg c17] at H
            exact absurd H (by simp)
          ·
           rw [if_neg c15] at H
           have c15b0 : ((rd l0 (ji9)) == (rd l0 (ji12))) = false := beq_eq_false_iff_ne.mpr c15
           have c15b1 : ((rd l0 (ji9)) != (rd l0 (ji12))) = true := bne_iff_ne.mpr c15
           obtain rfl := Option.some.inj H
           have p296 : 0 ≤ (a1 : Int) := of_decide_eq_true (by first | (with_reducible assumption) | assumption)
           have q296 : a1 < (l0.length : Int) := of_decide_eq_true (by first | (with_reducible assumption) | assumption)
           obtain ⟨ad296, e296, hx296_0⟩ := Kd.at_int HR0.out a1 p296 q296
           cases e296
           replace p296 := eq_true p296
           replace q296 := eq_true q296
           have p297 : 0 ≤ (a2 : Int) := of_decide_eq_true (by first | (with_reducible assumption) | assumption)
           have q297 : a2 < (l0.length : Int) := of_decide_eq_true (by first | (with_reducible assumption) | assumption)
           obtain ⟨ad297, e297, hx297_0⟩ := Kd.at_int HR0.out a2 p297 q297
           obtain rfl : ad296 = ad297 := (by injection e297)
           replace p297 := eq_true p297
           replace q297 := eq_true q297
           have p298 : 0 ≤ ((ji9) : Int) := of_decide_eq_true (by first | (with_reducible assumption) | assumption)
           have q298 : (ji9) < (l0.length : Int) := of_decide_eq_true (by first | (with_reducible assumption) | assumption)
           obtain ⟨ad298, e298, hx298_0⟩ := Kd.at_int HR0.out (ji9) p298 q298
           obtain rfl : ad296 = ad298 := (by injection e298)
           replace p298 := eq_true p298
           replace q298 := eq_true q298
           have p299 : 0 ≤ ((ji12) : Int) := of_decide_eq_true (by first | (with_reducible assumption) | assumption)
           have q299 : (ji12) < (l0.length : Int) := of_decide_eq_true (by first | (with_reducible assumption) | assumption)
           obtain ⟨ad299, e299, hx299_0⟩ := Kd.at_int HR0.out (ji12) p299 q299
           obtain rfl : ad296 = ad299 := (by injection e299)
           replace p299 := eq_true p299
           replace q299 := eq_true q299
           go_enter Try.func81, Try.ntmps81
           go_wp2
           repeat (go_quiet (fail); try go_wp2)
           go_ret
           exact ⟨by first | rfl | (simp; done) | (simp only [← hji9, ← hji12] <;> (first | rfl | simp)) | (simp [*]; done), by repeat (first | exact Drawn0.refl _ | apply Drawn0.step)⟩
         ·
          rw [if_neg c14] at H
          exact absurd H (by simp)
        ·
         rw [if_neg c13] at H
         exact absurd H (by simp)
       ·
        rw [if_neg c11] at H
        exact absurd H (by simp)
      ·
       rw [if_neg c10] at H
       exact absurd H (by simp)
     ·
      rw [if_neg c8] at H
      have c8b0 : ((rd l0 a1) == (rd l0 a2)) = false := beq_eq_false_iff_ne.mpr c8
      have c8b1 : ((rd l0 a1) != (rd l0 a2)) = true := bne_iff_ne.mpr c8
      obtain rfl := Option.some.inj H
      have p296 : 0 ≤ (a1 : Int) := of_decide_eq_true (by first | (with_reducible assumption) | assumption)
      have q296 : a1 < (l0.length : Int) := of_decide_eq_true (by first | (with_reducible assumption) | assumption)
      obtain ⟨ad296, e296, hx296_0⟩ := Kd.at_int HR0.out a1 p296 q296
      cases e296
      replace p296 := eq_true p296
      replace q296 := eq_true q296
      have p297 : 0 ≤ (a2 : Int) := of_decide_eq_true (by first | (with_reducible assumption) | assumption)
      have q297 : a2 < (l0.length : Int) := of_decide_eq_true (by first | (with_reducible assumption) | assumption)
      obtain ⟨ad297, e297, hx297_0⟩ := Kd.at_int HR0.out a2 p297 q297
      obtain rfl : ad296 = ad297 := (by injection e297)
      replace p297 := eq_true p297
      replace q297 := eq_true q297
      go_enter Try.func81, Try.ntmps81
      go_wp2
      repeat (go_quiet (fail); try go_wp2)
      go_ret
      exact ⟨by first | rfl | (simp; done) | (simp [*]; done), by repeat (first | exact Drawn0.refl _ | apply Drawn0.step)⟩
    ·
     rw [if_neg c7] at H
     exact absurd H (by simp)
   ·
    rw [if_neg c6] at H
    exact absurd H (by simp)
  ·
   rw [if_neg c5] at H
   exact absurd H (by simp)
 ·
  rw [if_neg c4] at H
  exact absurd H (by simp)
mutual
def r05_before.l0 : Nat → List Int → Int → Int → Option (Int)
 | 0, _, _, _ => none
 | k + 1, x0, x1, x5 => if x5 ≥ 0 then (r05_before.j1 k x0 x1 x5 (decide ((wrap64 (x1 - x5)) ≤ 65535))) else (r05_before.j1 k x0 x1 x5 false)
def r05_before.j1 : Nat → List Int → Int → Int → Bool → Option (Int)
 | 0, _, _, _, _ => none
 | k + 1, x0, x1, x5, x15 => if x15 = true then ((r05_four.f x0 x5 x1).bind fun t304 => (if t304 = true then (some x5) else (r05_before.l0 k x0 x1 (wrap64 (x5 - 1))))) else (some (-1))
end
def r05_before.f (k : Nat) (l0 : List Int) (a1 : Int) : Option (Int) := r05_before.l0 k l0 a1 (wrap64 (a1 - 1))
set_option maxHeartbeats 8000000 in
set_option maxRecDepth 100000 in
theorem r05_before.calls (k : Nat) (A0 : Option Addr) (c0 : Nat) (l0 : List Int) (a1 : Int) (r : Int) (w : World) (hr0 : Kd.C (Kd.int .u8) w A0 l0.length l0) (hc0 : l0.length ≤ c0) (h : r05_before.f k l0 a1 = some r) :
  Calls Try.prog 50 #[.slice A0 l0.length c0, .int .i64 a1] w fun e w' => e = .returned (.int .i64 r) ∧ Drawn0 w w' := by
 have HR0 := aM hr0
 have HC0 := aM hc0
 clear hr0 hc0
 have H : (r05_before.l0 k l0 a1 (wrap64 (a1 - 1))) = some r := h
 clear h
 have H' := aM H
 clear H
 go_enter Try.func50, Try.ntmps50
 go_wp2
 go_loopg [5] k (fun kq v5 w' => ∃ (x5_1 : Int), v5 = .int .i64 x5_1 ∧ Aside0 (r05_before.l0 kq l0 a1 x5_1 = some r) ∧ Aside0 (kq ≤ k) ∧ Drawn0 w w')
 case atStart => exact ⟨(wrap64 (a1 - 1)), (by first | rfl | (simp; done) | (simp [*]; done)), H', ⟨Nat.le_refl _⟩, by repeat (first | exact Drawn0.refl _ | apply Drawn0.step)⟩
 case round =>
  clear H'
  try clear p2
  obtain ⟨x5_1, rfl, HA, HK1, ⟨m1, rfl⟩⟩ := hrel
  cases gk with
  | zero => exact absurd HA.out (by simp [r05_before.l0])
  | succ k1 =>
   have H := HA.out
   clear HA
   simp only [r05_before.l0] at H
   have HC3 := aM H
   clear H
   go_upto_region 2 with (fail)
   go_cut [15] (fun v15 wc => ∃ (kq : Nat) (x15_2 : Bool), v15 = .bool x15_2 ∧ Aside0 (r05_before.j1 kq l0 a1 x5_1 x15_2 = some r) ∧ Aside0 (kq ≤ k1) ∧ Drawn0 w wc)
   case first =>
    have H := HC3.out
    clear HC3
    by_cases c4 : x5_1 ≥ 0
    ·
     rw [if_pos c4] at H
     have c4b0 : decide (0 ≤ x5_1) = true := decide_eq_true c4
     clear c4
     (first | rw [c4b0] | (simp only [i64_w, i32_w]; rw [c4b0]) | skip)
     have H' := aM H
     clear H
     go_wp2
     go_meet
     case rel => exact ⟨_, (decide ((wrap64 (a1 - x5_1)) ≤ 65535)), (by first | rfl | (simp; done) | (simp [*]; done)), H', ⟨by have := HK1.out; first | omega | exact Nat.le_refl _⟩, by repeat (first | exact Drawn0.refl _ | apply Drawn0.step)⟩
    ·
     rw [if_neg c4] at H
     have c4b0 : decide (0 ≤ x5_1) = false := decide_eq_false c4
     clear c4
     (first | rw [c4b0] | (simp only [i64_w, i32_w]; rw [c4b0]) | skip)
     have H' := aM H
     clear H
     go_wp2
     go_meet
     case rel => exact ⟨_, (false), (by first | rfl | (simp; done) | (simp [*]; done)), H', ⟨by have := HK1.out; first | omega | exact Nat.le_refl _⟩, by repeat (first | exact Drawn0.refl _ | apply Drawn0.step)⟩
   case rest =>
    clear HC3
    try clear p2
    try clear c4
    try clear c4b0
    try clear p2
    obtain ⟨kq, x15_2, rfl, HA, HJ2, ⟨mc2, rfl⟩⟩ := hcut
    cases kq with
    | zero => exact absurd HA.out (by simp [r05_before.j1])
    | succ kj2 =>
     have H := HA.out
     clear HA
     simp only [r05_before.j1] at H
     by_cases c5 : x15_2 = true
     ·
      subst c5
      have H1 : ((r05_four.f l0 x5_1 a1).bind fun t304 => (if t304 = true then (some x5_1) else (r05_before.l0 kj2 l0 a1 (wrap64 (x5_1 - 1))))) = some r := by rw [if_pos rfl] at H; exact H
      clear H
      have H := H1
      clear H1
      replace H := Option.bind_eq_some_iff.mp H
      obtain ⟨t304, A60, H⟩ := H
      replace H : (if t304 = true then (some x5_1) else (r05_before.l0 kj2 l0 a1 (wrap64 (x5_1 - 1)))) = some r := H
      have A6 := aM A60
      clear A60
      by_cases c7 : t304 = true
      ·
       subst c7
       have H1 : (some x5_1) = some r := by rw [if_pos rfl] at H; exact H
       clear H
       have H := H1
       clear H1
       obtain rfl := Option.some.inj H
       go_wp2_with (first | ((with_reducible refine gate_callee (f := 81) rfl ?_); refine goesL_ (some 21) rfl rfl Try.func81 (by kernel_rfl) rfl #[.slice A0 l0.length c0, .int .i64 x5_1, .int .i64 a1] rfl (by (try simp only [List.map_toArray, List.map_cons, List.map_nil]); first | done | rfl | (simp only [List.length_drop, List.length_take]; rfl)) ?_; (with_reducible refine (r05_four.calls _ _ l0 x5_1 a1 true _ ?side1 ?side2 A6.out).mono ?_); (case side1 => exact xC HR0.out); (case side2 => exact HC0.out); rintro e w' ⟨rfl, ⟨nd, rfl⟩⟩; refine ⟨_, rfl, ?_⟩))
       go_ret
       exact ⟨by first | rfl | (simp; done) | (simp [*]; done), by repeat (first | exact Drawn0.refl _ | apply Drawn0.step)⟩
      ·
       replace c7 := Bool.eq_false_iff.mpr c7
       subst c7
       have H1 : (r05_before.l0 kj2 l0 a1 (wrap64 (x5_1 - 1))) = some r := by rw [if_neg (show ¬ (false = true) by decide)] at H; exact H
       clear H
       have H := H1
       clear H1
       have H' := aM H
       clear H
       go_wp2_with (first | ((with_reducible refine gate_callee (f := 81) rfl ?_); refine goesL_ (some 21) rfl rfl Try.func81 (by kernel_rfl) rfl #[.slice A0 l0.length c0, .int .i64 x5_1, .int .i64 a1] rfl (by (try simp only [List.map_toArray, List.map_cons, List.map_nil]); first | done | rfl | (simp only [List.length_drop, List.length_take]; rfl)) ?_; (with_reducible refine (r05_four.calls _ _ l0 x5_1 a1 false _ ?side1 ?side2 A6.out).mono ?_); (case side1 => exact xC HR0.out); (case side2 => exact HC0.out); rintro e w' ⟨rfl, ⟨nd, rfl⟩⟩; refine ⟨_, rfl, ?_⟩))
       go_roundg kj2
       case measure => have := HK1.out; have := HJ2.out; omega
       case rel => exact ⟨(wrap64 (x5_1 - 1)), (by first | rfl | (simp; done) | (simp [*]; done)), H', ⟨by have := HK1.out; have := HJ2.out; omega⟩, by repeat (first | exact Drawn0.refl _ | apply Drawn0.step)⟩
     ·
      replace c5 := Bool.eq_false_iff.mpr c5
      subst c5
      have H1 : (some (-1)) = some r := by rw [if_neg (show ¬ (false = true) by decide)] at H; exact H
      clear H
      have H := H1
      clear H1
      obtain rfl := Option.some.inj H
      go_wp2
      go_ret
      exact ⟨by first | rfl | (simp; done) | (simp [*]; done), by repeat (first | exact Drawn0.refl _ | apply Drawn0.step)⟩
def r05_more.l0 : Nat → Int → List Int → Option (List Int)
 | 0, _, _ => none
 | k + 1, x0, x3 => if x0 ≥ 255 then (if x3.length < 140737488355328 then (r05_more.l0 k (wrap64 (x0 - 255)) (x3 ++ [255])) else (none)) else (if x3.length < 140737488355328 then (some (x3 ++ [(x0) % 256])) else (none))
def r05_more.f (k : Nat) (a0 : Int) : Option (List Int) := r05_more.l0 k a0 ([] : List Int)
set_option maxHeartbeats 8000000 in
set_option maxRecDepth 100000 in
theorem r05_more.calls (k : Nat) (a0 : Int) (r : List Int) (w : World) (h : r05_more.f k a0 = some r) :
  Calls Try.prog 82 #[.int .i64 a0] w fun e w' => ∃ v0_ : Value, e = .returned (v0_) ∧ Kd.R (Kd.int .u8) 5 w' w.heap.size (fun _ => True) v0_ r ∧ Below w.heap.size w w' := by
 have HB := aM (Below.refl w.heap.size w)
 have H : (r05_more.l0 k a0 ([] : List Int)) = some r := h
 clear h
 have H' := aM H
 clear H
 go_enter Try.func82, Try.ntmps82
 go_wp2
 go_loopg [0, 3] k (fun kq v0 v3 w' => ∃ (x0_1 : Int) (x3_1 : List Int), v0 = .int .i64 x0_1 ∧ Aside0 (r05_more.l0 kq x0_1 x3_1 = some r) ∧ Aside0 (kq ≤ k) ∧ Aside0 (Kd.R (Kd.int .u8) 5 w' w.heap.size (fun _ => True) v3 x3_1) ∧ Aside0 (Below w.heap.size w w'))
 case atStart => exact ⟨(a0), (([] : List Int)), (by first | rfl | (simp; done) | (simp [*]; done)), H', ⟨Nat.le_refl _⟩, ⟨by first | exact Kd.R_nil _ _ _ _ _ | exact Kd.N_nil _ _ _ _ _ | exact Kd.V_nil _ _ _ _ _ | exact Kd.Q_nil _ _ _ _ _ | exact Kd.S_nil _ _ _ _ _⟩, ⟨xB HB.out⟩⟩
 case round =>
  clear H'
  obtain ⟨x0_1, x3_1, rfl, HA, HK1, HO_3, HB⟩ := hrel
  cases gk with
  | zero => exact absurd HA.out (by simp [r05_more.l0])
  | succ k1 =>
   have H := HA.out
   clear HA
   simp only [r05_more.l0] at H
   by_cases c2 : x0_1 ≥ 255
   ·
    rw [if_pos c2] at H
    have c2b0 : decide (255 ≤ x0_1) = true := decide_eq_true c2
    clear c2
    by_cases c3 : x3_1.length < 140737488355328
    ·
     rw [if_pos c3] at H
     have LMc3 := aM c3
     clear c3
     obtain ⟨y305, hy305⟩ : ∃ y_ : List Int, y_ = (x3_1 ++ [255]) := ⟨_, rfl⟩
     replace H : (r05_more.l0 k1 (wrap64 (x0_1 - 255)) y305) = some r := by first | (rw [hy305]; with_reducible exact H) | (have H2_ := (Option.bind_some _ _).symm.trans H; rw [hy305]; with_reducible exact H2_) | (have H2_ := (Option.bind_some _ _).symm.trans H; with_reducible exact H2_) | with_reducible exact H | (rw [hy305]; exact H) | exact H
     have Ny305 := aM hy305
     clear hy305
     have H' := aM H
     clear H
     go_wp2_with (first | ((with_reducible refine gate_builtin (b := .append) (xs := #[.tmp 6, .tmp 7]) rfl ?_); at_builtin; refine Kd.R_append (Kd.int .u8) (w0 := w) w.heap.size rfl (.tmp 6) (.tmp 7) 22 5 (.int .u8 0) 1 rfl Try.underlying22 info5 rfl (by decide) (by omega) u3 x3_1 255 [.int .u8 255] (fun _ => True) (fun _ => False) rfl rfl ?aP (fun _ hk => hk.elim) ?aF ?aO ?aB ?aS ?aL ?_; (case aP => exact rfl); (case aB => exact (xB HB.out)); (case aF => exact (fun _ _ => trivial)); (case aO => exact (xR HO_3.out)); (case aS => exact (below_size (xB HB.out))); (case aL => have := LMc3.out; omega); intro v306 w4 ho hb hg hat; rw [← Ny305.out] at ho; have n0_ := aM (hb); have n1_ := aM (ho); clear HB; clear HO_3; have HB := n0_; have HO307 := n1_; clear n0_ n1_; clear ho hb hg hat))
     go_roundg k1
     case measure => have := HK1.out; omega
     case rel => exact ⟨(wrap64 (x0_1 - 255)), (y305), (by first | rfl | (simp; done) | (simp [*]; done)), H', ⟨by have := HK1.out; omega⟩, ⟨by (with_reducible repeat (first | apply Kd.R_alloc | apply Kd.R_drewN | apply Kd.R_drew)); exact HO307.out⟩, ⟨xB HB.out⟩⟩
    ·
     rw [if_neg c3] at H
     exact absurd H (by simp)
   ·
    rw [if_neg c2] at H
    have c2b0 : decide (255 ≤ x0_1) = false := decide_eq_false c2
    clear c2
    by_cases c5 : x3_1.length < 140737488355328
    ·
     rw [if_pos c5] at H
     have LMc5 := aM c5
     clear c5
     obtain ⟨y308, hy308⟩ : ∃ y_ : List Int, y_ = (x3_1 ++ [(x0_1) % 256]) := ⟨_, rfl⟩
     replace H : (some y308) = some r := by first | (rw [hy308]; with_reducible exact H) | (have H2_ := (Option.bind_some _ _).symm.trans H; rw [hy308]; with_reducible exact H2_) | (have H2_ := (Option.bind_some _ _).symm.trans H; with_reducible exact H2_) | with_reducible exact H | (rw [hy308]; exact H) | exact H
     have Ny308 := aM hy308
     clear hy308
     obtain rfl := Option.some.inj H
     go_wp2_with (first | ((with_reducible refine gate_builtin (b := .append) (xs := #[.tmp 11, .tmp 14]) rfl ?_); at_builtin; refine Kd.R_append (Kd.int .u8) (w0 := w) w.heap.size rfl (.tmp 11) (.tmp 14) 22 5 (.int .u8 0) 1 rfl Try.underlying22 info5 rfl (by decide) (by omega) u3 x3_1 ((x0_1) % 256) [.int .u8 ((x0_1) % 256)] (fun _ => True) (fun _ => False) rfl rfl ?aP (fun _ hk => hk.elim) ?aF ?aO ?aB ?aS ?aL ?_; (case aP => exact rfl); (case aB => exact (xB HB.out)); (case aF => exact (fun _ _ => trivial)); (case aO => exact (xR HO_3.out)); (case aS => exact (below_size (xB HB.out))); (case aL => have := LMc5.out; omega); intro v309 w6 ho hb hg hat; rw [← Ny308.out] at ho; have n0_ := aM (hb); have n1_ := aM (ho); clear HB; clear HO_3; have HB := n0_; have HO310 := n1_; clear n0_ n1_; clear ho hb hg hat))
     go_ret
     exact ⟨_, by first | rfl | (simp [errW_none, errW_some] <;> rfl) | (simp [*, errW_none, errW_some] <;> rfl), by (with_reducible repeat (first | apply Kd.R_alloc | apply Kd.R_drewN | apply Kd.R_drew)); exact HO310.out, xB HB.out⟩
    ·
     rw [if_neg c5] at H
     exact absurd H (by simp)
mutual
def r05_part.j0 : Nat → List Int → Int → Int → Int → Int → Option (List Int)
 | 0, _, _, _, _, _ => none
 | k + 1, x0, x1, x2, x7, x8 => (some (([(wrap64 ((16 * x7) + x8)) % 256] : List Int) : List Int)).bind fun y311 => (if x7 = 15 then ((r05_more.f k (wrap64 ((x0.length : Int) - 15))).bind fun t314 => (if y311.length + t314.length < 140737488355328 then (r05_part.j1 k x0 x1 x2 x8 (y311 ++ t314)) else (none))) else (r05_part.j1 k x0 x1 x2 x8 y311))
def r05_part.j1 : Nat → List Int → Int → Int → Int → List Int → Option (List Int)
 | 0, _, _, _, _, _ => none
 | k + 1, x0, x1, x2, x8, x9 => if x9.length + x0.length < 140737488355328 then ((some (x9 ++ x0 : List Int)).bind fun y320 => (if x1 = 0 then (some y320) else ((some (([(Int.tmod x1 256) % 256, (wrap64 (Int.tdiv x1 256)) % 256] : List Int) : List Int)).bind fun y323 => (if y320.length + y323.length < 140737488355328 then ((some (y320 ++ y323 : List Int)).bind fun y326 => (if x8 = 15 then ((r05_more.f k (wrap64 (x2 - 19))).bind fun t329 => (if y326.length + t329.length < 140737488355328 then (some (y326 ++ t329)) else (none))) else (some y326))) else (none))))) else (none)
end
def r05_part.f (k : Nat) (l0 : List Int) (a1 : Int) (a2 : Int) : Option (List Int) := if a1 > 0 then (r05_part.j0 k l0 a1 a2 (mn 15 (l0.length : Int)) (mn 15 (wrap64 (a2 - 4)))) else (r05_part.j0 k l0 a1 a2 (mn 15 (l0.length : Int)) 0)
set_option maxHeartbeats 8000000 in
set_option maxRecDepth 100000 in
theorem r05_part.calls (k : Nat) (A0 : Option Addr) (c0 : Nat) (l0 : List Int) (a1 : Int) (a2 : Int) (r : List Int) (w : World) (hr0 : Kd.C (Kd.int .u8) w A0 l0.length l0) (hc0 : l0.length ≤ c0) (h : r05_part.f k l0 a1 a2 = some r) :
  Calls Try.prog 51 #[.slice A0 l0.length c0, .int .i64 a1, .int .i64 a2] w fun e w' => ∃ v0_ : Value, e = .returned (v0_) ∧ Kd.R (Kd.int .u8) 5 w' w.heap.size (fun _ => True) v0_ r ∧ Below w.heap.size w w' := by
 have HR0 := aM hr0
 have HC0 := aM hc0
 clear hr0 hc0
 have HB := aM (Below.refl w.heap.size w)
 have H : (if a1 > 0 then (r05_part.j0 k l0 a1 a2 (mn 15 (l0.length : Int)) (mn 15 (wrap64 (a2 - 4)))) else (r05_part.j0 k l0 a1 a2 (mn 15 (l0.length : Int)) 0)) = some r := h
 clear h
 obtain ⟨ji4, hji4⟩ : ∃ j_ : Int, (mn 15 (l0.length : Int)) = j_ := ⟨_, rfl⟩
 replace H : (if a1 > 0 then (r05_part.j0 k l0 a1 a2 ji4 (mn 15 (wrap64 (a2 - 4)))) else (r05_part.j0 k l0 a1 a2 ji4 0)) = some r := by first | (rw [hji4] at H; exact H) | (simp only [hji4] at H ⊢; exact H)
 (try (have hji4h : ji4 ≤ 15 := by (rw [← hji4]; unfold mn; (repeat' split) <;> omega)))
 (try (have hji4g : ji4 ≤ 64 := by omega))
 (try (have hji4l : 0 ≤ ji4 := by (rw [← hji4]; unfold mn; (repeat' split) <;> omega)))
 (try (have hji4m : 0 ≤ ji4 := by omega))
 have hji4_ : (if (l0.length : Int) < 15 then (l0.length : Int) else 15) = ji4 := hji4
 have HC5 := aM H
 clear H
 go_enter Try.func51, Try.ntmps51
 go_upto_if 14 with (fail)
 go_cut [8] (fun v8 wc => ∃ (kq : Nat) (x8_4 : Int), v8 = .int .i64 x8_4 ∧ Aside0 (r05_part.j0 kq l0 a1 a2 ji4 x8_4 = some r) ∧ Aside0 (kq ≤ k) ∧ Aside0 (Below w.heap.size w wc))
 case first =>
  have H := HC5.out
  clear HC5
  by_cases c6 : a1 > 0
  ·
   rw [if_pos c6] at H
   have c6b0 : decide (0 < a1) = true := decide_eq_true c6
   clear c6
   (first | rw [c6b0] | (simp only [i64_w, i32_w]; rw [c6b0]) | skip)
   obtain ⟨ji7, hji7⟩ : ∃ j_ : Int, (mn 15 (wrap64 (a2 - 4))) = j_ := ⟨_, rfl⟩
   replace H : (r05_part.j0 k l0 a1 a2 ji4 ji7) = some r := by first | (rw [hji7] at H; exact H) | (simp only [hji7] at H ⊢; exact H)
   (try (have hji7h : ji7 ≤ 15 := by (rw [← hji7]; unfold mn; (repeat' split) <;> omega)))
   (try (have hji7g : ji7 ≤ 64 := by omega))
   have hji7_ : (if (wrap64 (a2 - 4)) < 15 then (wrap64 (a2 - 4)) else 15) = ji7 := hji7
   have H' := aM H
   clear H
   go_wp2
   go_meet
   case rel => exact ⟨_, (ji7), (by first | rfl | (simp; done) | (simp only [← hji7] <;> (first | rfl | simp)) | (simp [*]; done)), H', ⟨by first | omega | exact Nat.le_refl _⟩, ⟨xB HB.out⟩⟩
  ·
   rw [if_neg c6] at H
   have c6b0 : decide (0 < a1) = false := decide_eq_false c6
   clear c6
   (first | rw [c6b0] | (simp only [i64_w, i32_w]; rw [c6b0]) | skip)
   have H' := aM H
   clear H
   go_wp2
   go_meet
   case rel => exact ⟨_, (0), (by first | rfl | (simp; done) | (simp [*]; done)), H', ⟨by first | omega | exact Nat.le_refl _⟩, ⟨xB HB.out⟩⟩
 case rest =>
  clear HC5
  try clear p2
  try clear c5
  try clear c6
  try clear c6b0
  try clear p6
  obtain ⟨kq, x8_4, rfl, HA, HJ4, HB⟩ := hcut
  cases kq with
  | zero => exact absurd HA.out (by simp [r05_part.j0])
  | succ kj4 =>
   have H := HA.out
   clear HA
   simp only [r05_part.j0] at H
   obtain ⟨y311, hy311⟩ : ∃ y_ : List Int, y_ = (([(wrap64 ((16 * ji4) + x8_4)) % 256] : List Int)) := ⟨_, rfl⟩
   replace H : (if ji4 = 15 then ((r05_more.f kj4 (wrap64 ((l0.length : Int) - 15))).bind fun t314 => (if y311.length + t314.length < 140737488355328 then (r05_part.j1 kj4 l0 a1 a2 x8_4 (y311 ++ t314)) else (none))) else (r05_part.j1 kj4 l0 a1 a2 x8_4 y311)) = some r := by first | (rw [hy311]; with_reducible exact H) | (have H2_ := (Option.bind_some _ _).symm.trans H; rw [hy311]; with_reducible exact H2_) | (have H2_ := (Option.bind_some _ _).symm.trans H; with_reducible exact H2_) | with_reducible exact H | (rw [hy311]; exact H) | exact H
   have Ny311 := aM hy311
   clear hy311
   have HC8 := aM H
   clear H
   go_upto_if 25 with (first | ((with_reducible refine gate_dst (N := 23) rfl ?_); refine Kd.R_lit (Kd.int .u8) _ 5 ?hg (N := 23) ?hd (xs := ([(wrap64 ((16 * ji4) + x8_4)) % 256] : List Int)) (inner := [.int .u8 ((wrap64 ((16 * ji4) + x8_4)) % 256)]) (ok := fun _ => True) (okp := fun _ => True) ?hr ?hp (fun _ hk => hk) trivial (Below.refl _ _) (Nat.le_refl _) (by simp) ?_; (case hd => rfl); (case hg => rfl); (case hr => first | (go_simp; done) | (go_simp; rfl)); (case hp => exact (Reps.one (show Kd.M (Kd.int .u8) _ _ _ ((wrap64 ((16 * ji4) + x8_4)) % 256) [.int .u8 ((wrap64 ((16 * ji4) + x8_4)) % 256)] from rfl) (Reps.none _ _))); intro v312 w9 ho10 hb hg_ hnew_; clear hg_ hnew_; (first | rw [← Ny311.out] at ho10 | (simp only [Int.reduceToNat] at ho10; rw [← Ny311.out] at ho10)); have n0_ := aM (Kd.R_lower ho10 (below_size (xB HB.out))); have n1_ := aM (below_step (xB HB.out) hb); clear HB; have HO313 := n0_; have HB := n1_; clear n0_ n1_; clear hb ho10))
   (try simp only [xQ])
   go_cut [9] (fun v9 wc => ∃ (kq : Nat) (x9_7 : List Int), Aside0 (r05_part.j1 kq l0 a1 a2 x8_4 x9_7 = some r) ∧ Aside0 (kq ≤ kj4) ∧ Aside0 (Kd.R (Kd.int .u8) 5 wc w.heap.size (fun _ => True) v9 x9_7) ∧ Aside0 (Below w.heap.size w wc))
   case first =>
    have H := HC8.out
    clear HC8
    by_cases c11 : ji4 = 15
    ·
     rw [if_pos c11] at H
     have c11b0 : (ji4 == 15) = true := beq_iff_eq.mpr c11
     have c11b1 : (ji4 != 15) = false := bne_eq_false_iff_eq.mpr c11
     clear c11
     (first | rw [c11b0] | (simp only [i64_w, i32_w]; rw [c11b0]) | skip)
     replace H := Option.bind_eq_some_iff.mp H
     obtain ⟨t314, A120, H⟩ := H
     replace H : (if y311.length + t314.length < 140737488355328 then (r05_part.j1 kj4 l0 a1 a2 x8_4 (y311 ++ t314)) else (none)) = some r := H
     have A12 := aM A120
     clear A120
     by_cases c13 : y311.length + t314.length < 140737488355328
     ·
      rw [if_pos c13] at H
      have LMc13 := aM c13
      clear c13
      obtain ⟨y317, hy317⟩ : ∃ y_ : List Int, y_ = (y311 ++ t314) := ⟨_, rfl⟩
      replace H : (r05_part.j1 kj4 l0 a1 a2 x8_4 y317) = some r := by first | (rw [hy317]; with_reducible exact H) | (have H2_ := (Option.bind_some _ _).symm.trans H; rw [hy317]; with_reducible exact H2_) | (have H2_ := (Option.bind_some _ _).symm.trans H; with_reducible exact H2_) | with_reducible exact H | (rw [hy317]; exact H) | exact H
      have Ny317 := aM hy317
      clear hy317
      have H' := aM H
      clear H
      go_wp2_with (first | ((with_reducible refine gate_callee (f := 82) rfl ?_); refine goesL_ (some 30) rfl rfl Try.func82 (by kernel_rfl) rfl #[.int .i64 (wrap64 ((l0.length : Int) - 15))] rfl (by (try simp only [List.map_toArray, List.map_cons, List.map_nil]); first | done | rfl | (simp only [List.length_drop, List.length_take]; rfl)) ?_; (with_reducible refine (r05_more.calls kj4 (wrap64 ((l0.length : Int) - 15)) t314 _ A12.out).mono ?_); rintro e w14 ⟨v315, rfl, ho0, hb⟩; refine ⟨_, rfl, ?_⟩; have n0_ := aM (Kd.R_elder' (xR HO313.out) (Kd.R_base ho0) hb); have n1_ := aM (Kd.R_lower (Kd.R_new' ho0 (Kd.R_lt (xR HO313.out))) (below_size (xB HB.out))); have n2_ := aM (below_step (xB HB.out) hb); clear HO313; clear HB; have HO313 := n0_; have HO316 := n1_; have HB := n2_; clear n0_ n1_ n2_; (try clear hb); (try clear hb2); (try clear hk); (try clear hi); (try clear ho0); obtain ⟨Ao16, co16, eo16⟩ := Kd.R_slice HO316.out; subst eo16) | ((with_reducible refine gate_builtin (b := .append) (xs := #[.tmp 26, .tmp 30]) rfl ?_); at_builtin; refine Kd.R_append_rows (Kd.int .u8) (w0 := w) w.heap.size rfl (.tmp 26) (.tmp 30) 22 5 (.int .u8 0) 1 rfl Try.underlying22 info5 rfl (by decide) (by omega) v312 y311 t314 _ _ _ (fun k_ => some k_ ≠ (.slice Ao16 t314.length co16 : Value).ownBlock) (fun _ => False) rfl rfl ?aO ?aR (fun _ _ h => h) (fun _ h => h.elim) ?aF ?aB ?aS ?aL ?_; (case aR => exact xC ((Kd.R_reads' HO316.out).2.2)); (case aB => exact (xB HB.out)); (case aF => exact (fun k_ hk => Kd.fresh' (Kd.R_lt (xR HO316.out)) k_ hk)); (case aO => exact (by (with_reducible repeat (first | apply Kd.R_alloc | apply Kd.R_drewN | apply Kd.R_drew)); exact Kd.R_mono HO313.out (fun _ hk => hk.2))); (case aS => exact (below_size (xB HB.out))); (case aL => have := LMc13.out; omega); intro v318 w15 ho hb hg hat; rw [← Ny317.out] at ho; have n0_ := aM (Kd.R_after (ok := (fun _ => True)) (xR HO316.out) hg hat); have n1_ := aM (hb); have n2_ := aM (ho); clear HO316; clear HB; clear HO313; have HO316 := n0_; have HB := n1_; have HO319 := n2_; clear n0_ n1_ n2_; clear ho hb hg hat))
      go_meet
      case rel => exact ⟨_, (y317), H', ⟨by have := HJ4.out; first | omega | exact Nat.le_refl _⟩, ⟨by (with_reducible repeat (first | apply Kd.R_alloc | apply Kd.R_drewN | apply Kd.R_drew)); exact Kd.R_mono HO319.out (fun _ hk => trivial)⟩, ⟨xB HB.out⟩⟩
     ·
      rw [if_neg c13] at H
      exact absurd H (by simp)
    ·
     rw [if_neg c11] at H
     have c11b0 : (ji4 == 15) = false := beq_eq_false_iff_ne.mpr c11
     have c11b1 : (ji4 != 15) = true := bne_iff_ne.mpr c11
     clear c11
     (first | rw [c11b0] | (simp only [i64_w, i32_w]; rw [c11b0]) | skip)
     have H' := aM H
     clear H
     go_wp2
     go_meet
     case rel => exact ⟨_, (y311), H', ⟨by have := HJ4.out; first | omega | exact Nat.le_refl _⟩, ⟨by (with_reducible repeat (first | apply Kd.R_alloc | apply Kd.R_drewN | apply Kd.R_drew)); exact HO313.out⟩, ⟨xB HB.out⟩⟩
   case rest =>
    clear HC8
    try clear c1
    try clear p2
    try clear c5
    try clear c6
    try clear c6b0
    try clear p6
    try clear c8
    try clear c11
    try clear c11b0
    try clear c11b1
    try clear c13
    try clear p2
    try clear p6
    obtain ⟨kq, x9_7, HA, HJ7, HO_9, HB⟩ := hcut
    cases kq with
    | zero => exact absurd HA.out (by simp [r05_part.j1])
    | succ kj7 =>
     have H := HA.out
     clear HA
     simp only [r05_part.j1] at H
     by_cases c17 : x9_7.length + l0.length < 140737488355328
     ·
      rw [if_pos c17] at H
      have LMc17 := aM c17
      clear c17
      obtain ⟨y320, hy320⟩ : ∃ y_ : List Int, y_ = (x9_7 ++ l0) := ⟨_, rfl⟩
      replace H : (if a1 = 0 then (some y320) else ((some (([(Int.tmod a1 256) % 256, (wrap64 (Int.tdiv a1 256)) % 256] : List Int) : List Int)).bind fun y323 => (if y320.length + y323.length < 140737488355328 then ((some (y320 ++ y323 : List Int)).bind fun y326 => (if x8_4 = 15 then ((r05_more.f kj7 (wrap64 (a2 - 19))).bind fun t329 => (if y326.length + t329.length < 140737488355328 then (some (y326 ++ t329)) else (none))) else (some y326))) else (none)))) = some r := by first | (rw [hy320]; with_reducible exact H) | (have H2_ := (Option.bind_some _ _).symm.trans H; rw [hy320]; with_reducible exact H2_) | (have H2_ := (Option.bind_some _ _).symm.trans H; with_reducible exact H2_) | with_reducible exact H | (rw [hy320]; exact H) | exact H
      have Ny320 := aM hy320
      clear hy320
      by_cases c18 : a1 = 0
      ·
       rw [if_pos c18] at H
       have c18b0 : (a1 == 0) = true := beq_iff_eq.mpr c18
       have c18b1 : (a1 != 0) = false := bne_eq_false_iff_eq.mpr c18
       clear c18
       obtain rfl := Option.some.inj H
       go_wp2_with (first | ((with_reducible refine gate_builtin (b := .append) (xs := #[.tmp 32, .tmp 33]) rfl ?_); at_builtin; refine Kd.R_append_rows (Kd.int .u8) (w0 := w) w.heap.size rfl (.tmp 32) (.tmp 33) 22 5 (.int .u8 0) 1 rfl Try.underlying22 info5 rfl (by decide) (by omega) u9 x9_7 l0 _ _ _ (fun _ => True) (fun _ => False) rfl rfl ?aO ?aR (fun _ _ h => h) (fun _ h => h.elim) ?aF ?aB ?aS ?aL ?_; (case aR => exact xC (Kd.C_below HR0.out HB.out)); (case aB => exact (xB HB.out)); (case aF => exact (fun _ _ => trivial)); (case aO => exact (xR HO_9.out)); (case aS => exact (below_size (xB HB.out))); (case aL => have := LMc17.out; omega); intro v321 w19 ho hb hg hat; rw [← Ny320.out] at ho; have n0_ := aM (hb); have n1_ := aM (ho); clear HB; clear HO_9; have HB := n0_; have HO322 := n1_; clear n0_ n1_; clear ho hb hg hat))
       go_ret
       exact ⟨_, by first | rfl | (simp [errW_none, errW_some] <;> rfl) | (simp only [← hji4]; first | rfl | (simp [errW_none, errW_some] <;> rfl)) | (simp [*, errW_none, errW_some] <;> rfl), by (with_reducible repeat (first | apply Kd.R_alloc | apply Kd.R_drewN | apply Kd.R_drew)); exact HO322.out, xB HB.out⟩
      ·
       rw [if_neg c18] at H
       have c18b0 : (a1 == 0) = false := beq_eq_false_iff_ne.mpr c18
       have c18b1 : (a1 != 0) = true := bne_iff_ne.mpr c18
       obtain ⟨y323, hy323⟩ : ∃ y_ : List Int, y_ = (([(Int.tmod a1 256) % 256, (wrap64 (Int.tdiv a1 256)) % 256] : List Int)) := ⟨_, rfl⟩
       replace H : (if y320.length + y323.length < 140737488355328 then ((some (y320 ++ y323 : List Int)).bind fun y326 => (if x8_4 = 15 then ((r05_more.f kj7 (wrap64 (a2 - 19))).bind fun t329 => (if y326.length + t329.length < 140737488355328 then (some (y326 ++ t329)) else (none))) else (some y326))) else (none)) = some r := by first | (rw [hy323]; with_reducible exact H) | (have H2_ := (Option.bind_some _ _).symm.trans H; rw [hy323]; with_reducible exact H2_) | (have H2_ := (Option.bind_some _ _).symm.trans H; with_reducible exact H2_) | with_reducible exact H | (rw [hy323]; exact H) | exact H
       have Ny323 := aM hy323
       clear hy323
       by_cases c20 : y320.length + y323.length < 140737488355328
       ·
        rw [if_pos c20] at H
        have LMc20 := aM c20
        clear c20
        obtain ⟨y326, hy326⟩ : ∃ y_ : List Int, y_ = (y320 ++ y323) := ⟨_, rfl⟩
        replace H : (if x8_4 = 15 then ((r05_more.f kj7 (wrap64 (a2 - 19))).bind fun t329 => (if y326.length + t329.length < 140737488355328 then (some (y326 ++ t329)) else (none))) else (some y326)) = some r := by first | (rw [hy326]; with_reducible exact H) | (have H2_ := (Option.bind_some _ _).symm.trans H; rw [hy326]; with_reducible exact H2_) | (have H2_ := (Option.bind_some _ _).symm.trans H; with_reducible exact H2_) | with_reducible exact H | (rw [hy326]; exact H) | exact H
        have Ny326 := aM hy326
        clear hy326
        by_cases c21 : x8_4 = 15
        ·
         rw [if_pos c21] at H
         have c21b0 : (x8_4 == 15) = true := beq_iff_eq.mpr c21
         have c21b1 : (x8_4 != 15) = false := bne_eq_false_iff_eq.mpr c21
         clear c21
         replace H := Option.bind_eq_some_iff.mp H
         obtain ⟨t329, A220, H⟩ := H
         replace H : (if y326.length + t329.length < 140737488355328 then (some (y326 ++ t329)) else (none)) = some r := H
         have A22 := aM A220
         clear A220
         by_cases c23 : y326.length + t329.length < 140737488355328
         ·
          rw [if_pos c23] at H
          have LMc23 := aM c23
          clear c23
          obtain ⟨y332, hy332⟩ : ∃ y_ : List Int, y_ = (y326 ++ t329) := ⟨_, rfl⟩
          replace H : (some y332) = some r := by first | (rw [hy332]; with_reducible exact H) | (have H2_ := (Option.bind_some _ _).symm.trans H; rw [hy332]; with_reducible exact H2_) | (have H2_ := (Option.bind_some _ _).symm.trans H; with_reducible exact H2_) | with_reducible exact H | (rw [hy332]; exact H) | exact H
          have Ny332 := aM hy332
          clear hy332
          obtain rfl := Option.some.inj H
          go_wp2_with (first | ((with_reducible refine gate_builtin (b := .append) (xs := #[.tmp 32, .tmp 33]) rfl ?_); at_builtin; refine Kd.R_append_rows (Kd.int .u8) (w0 := w) w.heap.size rfl (.tmp 32) (.tmp 33) 22 5 (.int .u8 0) 1 rfl Try.underlying22 info5 rfl (by decide) (by omega) u9 x9_7 l0 _ _ _ (fun _ => True) (fun _ => False) rfl rfl ?aO ?aR (fun _ _ h => h) (fun _ h => h.elim) ?aF ?aB ?aS ?aL ?_; (case aR => exact xC (Kd.C_below HR0.out HB.out)); (case aB => exact (xB HB.out)); (case aF => exact (fun _ _ => trivial)); (case aO => exact (xR HO_9.out)); (case aS => exact (below_size (xB HB.out))); (case aL => have := LMc17.out; omega); intro v321 w24 ho hb hg hat; rw [← Ny320.out] at ho; have n0_ := aM (hb); have n1_ := aM (ho); clear HB; clear HO_9; have HB := n0_; have HO322 := n1_; clear n0_ n1_; clear ho hb hg hat) | ((with_reducible refine gate_dst (N := 45) rfl ?_); refine Kd.R_lit (Kd.int .u8) _ 5 ?hg (N := 45) ?hd (xs := ([(Int.tmod a1 256) % 256, (wrap64 (Int.tdiv a1 256)) % 256] : List Int)) (inner := [.int .u8 ((Int.tmod a1 256) % 256), .int .u8 ((wrap64 (Int.tdiv a1 256)) % 256)]) (ok := fun _ => True) (okp := fun _ => True) ?hr ?hp (fun _ hk => hk) trivial (Below.refl _ _) (Nat.le_refl _) (by simp) ?_; (case hd => rfl); (case hg => rfl); (case hr => first | (go_simp; done) | (go_simp; rfl)); (case hp => exact (Reps.one (show Kd.M (Kd.int .u8) _ _ _ ((Int.tmod a1 256) % 256) [.int .u8 ((Int.tmod a1 256) % 256)] from rfl) (Reps.one (show Kd.M (Kd.int .u8) _ _ _ ((wrap64 (Int.tdiv a1 256)) % 256) [.int .u8 ((wrap64 (Int.tdiv a1 256)) % 256)] from rfl) (Reps.none _ _)))); intro v324 w25 ho26 hb hg_ hnew_; clear hg_ hnew_; (first | rw [← Ny323.out] at ho26 | (simp only [Int.reduceToNat] at ho26; rw [← Ny323.out] at ho26)); have n0_ := aM (Kd.R_elder' (xR HO322.out) (Kd.R_base ho26) hb); have n1_ := aM (Kd.R_lower (Kd.R_new' ho26 (Kd.R_lt (xR HO322.out))) (below_size (xB HB.out))); have n2_ := aM (below_step (xB HB.out) hb); clear HO322; clear HB; have HO322 := n0_; have HO325 := n1_; have HB := n2_; clear n0_ n1_ n2_; clear hb ho26; obtain ⟨Ao28, co28, eo28⟩ := Kd.R_slice HO325.out; subst eo28) | ((with_reducible refine gate_builtin (b := .append) (xs := #[.tmp 38, .tmp 45]) rfl ?_); at_builtin; refine Kd.R_append_rows (Kd.int .u8) (w0 := w) w.heap.size rfl (.tmp 38) (.tmp 45) 22 5 (.int .u8 0) 1 rfl Try.underlying22 info5 rfl (by decide) (by omega) v321 y320 y323 _ _ _ (fun k_ => some k_ ≠ (.slice Ao28 y323.length co28 : Value).ownBlock) (fun _ => False) rfl rfl ?aO ?aR (fun _ _ h => h) (fun _ h => h.elim) ?aF ?aB ?aS ?aL ?_; (case aR => exact xC ((Kd.R_reads' HO325.out).2.2)); (case aB => exact (xB HB.out)); (case aF => exact (fun k_ hk => Kd.fresh' (Kd.R_lt (xR HO325.out)) k_ hk)); (case aO => exact (by (with_reducible repeat (first | apply Kd.R_alloc | apply Kd.R_drewN | apply Kd.R_drew)); exact Kd.R_mono HO322.out (fun _ hk => hk.2))); (case aS => exact (below_size (xB HB.out))); (case aL => have := LMc20.out; omega); intro v327 w27 ho hb hg hat; rw [← Ny326.out] at ho; have n0_ := aM (Kd.R_after (ok := (fun _ => True)) (xR HO325.out) hg hat); have n1_ := aM (hb); have n2_ := aM (ho); clear HO325; clear HB; clear HO322; have HO325 := n0_; have HB := n1_; have HO328 := n2_; clear n0_ n1_ n2_; clear ho hb hg hat) | ((with_reducible refine gate_callee (f := 82) rfl ?_); refine goesL_ (some 52) rfl rfl Try.func82 (by kernel_rfl) rfl #[.int .i64 (wrap64 (a2 - 19))] rfl (by (try simp only [List.map_toArray, List.map_cons, List.map_nil]); first | done | rfl | (simp only [List.length_drop, List.length_take]; rfl)) ?_; (with_reducible refine (r05_more.calls kj7 (wrap64 (a2 - 19)) t329 _ A22.out).mono ?_); rintro e w29 ⟨v330, rfl, ho0, hb⟩; refine ⟨_, rfl, ?_⟩; have n0_ := aM (Kd.R_elder' (xR HO325.out) (Kd.R_base ho0) hb); have n1_ := aM (Kd.R_elder' (xR HO328.out) (Kd.R_base ho0) hb); have n2_ := aM (Kd.R_lower (Kd.R_new' (Kd.R_new' ho0 (Kd.R_lt (xR HO325.out))) (Kd.R_lt (xR HO328.out))) (below_size (xB HB.out))); have n3_ := aM (below_step (xB HB.out) hb); clear HO325; clear HO328; clear HB; have HO325 := n0_; have HO328 := n1_; have HO331 := n2_; have HB := n3_; clear n0_ n1_ n2_ n3_; (try clear hb); (try clear hb2); (try clear hk); (try clear hi); (try clear ho0); obtain ⟨Ao31, co31, eo31⟩ := Kd.R_slice HO331.out; subst eo31) | ((with_reducible refine gate_builtin (b := .append) (xs := #[.tmp 49, .tmp 52]) rfl ?_); at_builtin; refine Kd.R_append_rows (Kd.int .u8) (w0 := w) w.heap.size rfl (.tmp 49) (.tmp 52) 22 5 (.int .u8 0) 1 rfl Try.underlying22 info5 rfl (by decide) (by omega) v327 y326 t329 _ _ _ (fun k_ => some k_ ≠ (.slice Ao28 y323.length co28 : Value).ownBlock ∧ some k_ ≠ (.slice Ao31 t329.length co31 : Value).ownBlock) (fun _ => False) rfl rfl ?aO ?aR (fun _ _ h => h) (fun _ h => h.elim) ?aF ?aB ?aS ?aL ?_; (case aR => exact xC ((Kd.R_reads' HO331.out).2.2)); (case aB => exact (xB HB.out)); (case aF => exact (fun k_ hk => ⟨Kd.fresh' (Kd.R_lt (xR HO325.out)) k_ hk, Kd.fresh' (Kd.R_lt (xR HO331.out)) k_ hk⟩)); (case aO => exact (xR HO328.out)); (case aS => exact (below_size (xB HB.out))); (case aL => have := LMc23.out; omega); intro v333 w30 ho hb hg hat; rw [← Ny332.out] at ho; have n0_ := aM (Kd.R_after (ok := (fun k_ => some k_ ≠ (.slice Ao31 t329.length co31 : Value).ownBlock)) (by (with_reducible repeat (first | apply Kd.R_alloc | apply Kd.R_drewN | apply Kd.R_drew)); exact Kd.R_mono HO325.out (fun _ hk => ⟨hk.2, hk.1.2⟩)) hg hat); have n1_ := aM (Kd.R_after (ok := (fun k_ => some k_ ≠ (.slice Ao28 y323.length co28 : Value).ownBlock)) (by (with_reducible repeat (first | apply Kd.R_alloc | apply Kd.R_drewN | apply Kd.R_drew)); exact Kd.R_mono HO331.out (fun _ hk => ⟨hk.1.2, hk.2⟩)) hg hat); have n2_ := aM (hb); have n3_ := aM (ho); clear HO325; clear HO331; clear HB; clear HO328; have HO325 := n0_; have HO331 := n1_; have HB := n2_; have HO334 := n3_; clear n0_ n1_ n2_ n3_; clear ho hb hg hat))
          go_ret
          exact ⟨_, by first | rfl | (simp [errW_none, errW_some] <;> rfl) | (simp only [← hji4]; first | rfl | (simp [errW_none, errW_some] <;> rfl)) | (simp [*, errW_none, errW_some] <;> rfl), by (with_reducible repeat (first | apply Kd.R_alloc | apply Kd.R_drewN | apply Kd.R_drew)); exact Kd.R_mono HO334.out (fun _ hk => trivial), xB HB.out⟩
         ·
          rw [if_neg c23] at H
          exact absurd H (by simp)
        ·
         rw [if_neg c21] at H
         have c21b0 : (x8_4 == 15) = false := beq_eq_false_iff_ne.mpr c21
         have c21b1 : (x8_4 != 15) = true := bne_iff_ne.mpr c21
         obtain rfl := Option.some.inj H
         go_wp2_with (first | ((with_reducible refine gate_builtin (b := .append) (xs := #[.tmp 32, .tmp 33]) rfl ?_); at_builtin; refine Kd.R_append_rows (Kd.int .u8) (w0 := w) w.heap.size rfl (.tmp 32) (.tmp 33) 22 5 (.int .u8 0) 1 rfl Try.underlying22 info5 rfl (by decide) (by omega) u9 x9_7 l0 _ _ _ (fun _ => True) (fun _ => False) rfl rfl ?aO ?aR (fun _ _ h => h) (fun _ h => h.elim) ?aF ?aB ?aS ?aL ?_; (case aR => exact xC (Kd.C_below HR0.out HB.out)); (case aB => exact (xB HB.out)); (case aF => exact (fun _ _ => trivial)); (case aO => exact (xR HO_9.out)); (case aS => exact (below_size (xB HB.out))); (case aL => have := LMc17.out; omega); intro v321 w32 ho hb hg hat; rw [← Ny320.out] at ho; have n0_ := aM (hb); have n1_ := aM (ho); clear HB; clear HO_9; have HB := n0_; have HO322 := n1_; clear n0_ n1_; clear ho hb hg hat) | ((with_reducible refine gate_dst (N := 45) rfl ?_); refine Kd.R_lit (Kd.int .u8) _ 5 ?hg (N := 45) ?hd (xs := ([(Int.tmod a1 256) % 256, (wrap64 (Int.tdiv a1 256)) % 256] : List Int)) (inner := [.int .u8 ((Int.tmod a1 256) % 256), .int .u8 ((wrap64 (Int.tdiv a1 256)) % 256)]) (ok := fun _ => True) (okp := fun _ => True) ?hr ?hp (fun _ hk => hk) trivial (Below.refl _ _) (Nat.le_refl _) (by simp) ?_; (case hd => rfl); (case hg => rfl); (case hr => first | (go_simp; done) | (go_simp; rfl)); (case hp => exact (Reps.one (show Kd.M (Kd.int .u8) _ _ _ ((Int.tmod a1 256) % 256) [.int .u8 ((Int.tmod a1 256) % 256)] from rfl) (Reps.one (show Kd.M (Kd.int .u8) _ _ _ ((wrap64 (Int.tdiv a1 256)) % 256) [.int .u8 ((wrap64 (Int.tdiv a1 256)) % 256)] from rfl) (Reps.none _ _)))); intro v324 w33 ho34 hb hg_ hnew_; clear hg_ hnew_; (first | rw [← Ny323.out] at ho34 | (simp only [Int.reduceToNat] at ho34; rw [← Ny323.out] at ho34)); have n0_ := aM (Kd.R_elder' (xR HO322.out) (Kd.R_base ho34) hb); have n1_ := aM (Kd.R_lower (Kd.R_new' ho34 (Kd.R_lt (xR HO322.out))) (below_size (xB HB.out))); have n2_ := aM (below_step (xB HB.out) hb); clear HO322; clear HB; have HO322 := n0_; have HO325 := n1_; have HB := n2_; clear n0_ n1_ n2_; clear hb ho34; obtain ⟨Ao36, co36, eo36⟩ := Kd.R_slice HO325.out; subst eo36) | ((with_reducible refine gate_builtin (b := .append) (xs := #[.tmp 38, .tmp 45]) rfl ?_); at_builtin; refine Kd.R_append_rows (Kd.int .u8) (w0 := w) w.heap.size rfl (.tmp 38) (.tmp 45) 22 5 (.int .u8 0) 1 rfl Try.underlying22 info5 rfl (by decide) (by omega) v321 y320 y323 _ _ _ (fun k_ => some k_ ≠ (.slice Ao36 y323.length co36 : Value).ownBlock) (fun _ => False) rfl rfl ?aO ?aR (fun _ _ h => h) (fun _ h => h.elim) ?aF ?aB ?aS ?aL ?_; (case aR => exact xC ((Kd.R_reads' HO325.out).2.2)); (case aB => exact (xB HB.out)); (case aF => exact (fun k_ hk => Kd.fresh' (Kd.R_lt (xR HO325.out)) k_ hk)); (case aO => exact (by (with_reducible repeat (first | apply Kd.R_alloc | apply Kd.R_drewN | apply Kd.R_drew)); exact Kd.R_mono HO322.out (fun _ hk => hk.2))); (case aS => exact (below_size (xB HB.out))); (case aL => have := LMc20.out; omega); intro v327 w35 ho hb hg hat; rw [← Ny326.out] at ho; have n0_ := aM (Kd.R_after (ok := (fun _ => True)) (xR HO325.out) hg hat); have n1_ := aM (hb); have n2_ := aM (ho); clear HO325; clear HB; clear HO322; have HO325 := n0_; have HB := n1_; have HO328 := n2_; clear n0_ n1_ n2_; clear ho hb hg hat))
         go_ret
         exact ⟨_, by first | rfl | (simp [errW_none, errW_some] <;> rfl) | (simp only [← hji4]; first | rfl | (simp [errW_none, errW_some] <;> rfl)) | (simp [*, errW_none, errW_some] <;> rfl), by (with_reducible repeat (first | apply Kd.R_alloc | apply Kd.R_drewN | apply Kd.R_drew)); exact Kd.R_mono HO328.out (fun _ hk => trivial), xB HB.out⟩
       ·
        rw [if_neg c20] at H
        exact absurd H (by simp)
     ·
      rw [if_neg c17] at H
      exact absurd H (by simp)
mutual
def r05_Pack.l0 : Nat → List Int → List Int → Int → Int → Option (List Int)
 | 0, _, _, _, _ => none
 | k + 1, x0, x3, x4, x5 => if (wrap64 ((x0.length : Int) - x5)) ≥ 4 then ((r05_before.f k x0 x5).bind fun t345 => (if t345 < 0 then (r05_Pack.l0 k x0 x3 x4 (wrap64 (x5 + 1))) else (r05_Pack.l1 k x0 x3 x4 x5 t345 4))) else (if 0 ≤ x4 then (if x4 ≤ (x0.length : Int) then ((r05_part.f k (x0.drop (x4 : Int).toNat) 0 0).bind fun t339 => (if x3.length + t339.length < 140737488355328 then (some (x3 ++ t339)) else (none))) else (none)) else (none))
def r05_Pack.l1 : Nat → List Int → List Int → Int → Int → Int → Int → Option (List Int)
 | 0, _, _, _, _, _, _ => none
 | k + 1, x0, x3, x4, x5, x6, x7 => if (wrap64 (x5 + x7)) < (x0.length : Int) then (if 0 ≤ (wrap64 (x5 + x7)) then (if 0 ≤ (wrap64 (x6 + x7)) then (if (wrap64 (x6 + x7)) < (x0.length : Int) then (if (rd x0 (wrap64 (x5 + x7))) = (rd x0 (wrap64 (x6 + x7))) then (r05_Pack.l1 k x0 x3 x4 x5 x6 (wrap64 (x7 + 1))) else (if 0 ≤ x4 then (if x4 ≤ x5 then (if x5 ≤ (x0.length : Int) then ((r05_part.f k ((x0.take (x5 : Int).toNat).drop (x4 : Int).toNat) (wrap64 (x5 - x6)) x7).bind fun t352 => (if x3.length + t352.length < 140737488355328 then (r05_Pack.l0 k x0 (x3 ++ t352) (wrap64 (x5 + x7)) (wrap64 (x5 + x7))) else (none))) else (none)) else (none)) else (none))) else (none)) else (none)) else (none)) else (if 0 ≤ x4 then (if x4 ≤ x5 then (if x5 ≤ (x0.length : Int) then ((r05_part.f k ((x0.take (x5 : Int).toNat).drop (x4 : Int).toNat) (wrap64 (x5 - x6)) x7).bind fun t362 => (if x3.length + t362.length < 140737488355328 then (r05_Pack.l0 k x0 (x3 ++ t362) (wrap64 (x5 + x7)) (wrap64 (x5 + x7))) else (none))) else (none)) else (none)) else (none))
end
def r05_Pack.f (k : Nat) (l0 : List Int) : Option (List Int) := r05_Pack.l0 k l0 ([] : List Int) 0 0
set_option maxHeartbeats 8000000 in
set_option maxRecDepth 100000 in
theorem r05_Pack.calls (k : Nat) (A0 : Option Addr) (c0 : Nat) (l0 : List Int) (r : List Int) (w : World) (hr0 : Kd.C (Kd.int .u8) w A0 l0.length l0) (hc0 : l0.length ≤ c0) (h : r05_Pack.f k l0 = some r) :
  Calls Try.prog 25 #[.slice A0 l0.length c0] w fun e w' => ∃ v0_ : Value, e = .returned (v0_) ∧ Kd.R (Kd.int .u8) 5 w' w.heap.size (fun _ => True) v0_ r ∧ Below w.heap.size w w' := by
 have HR0 := aM hr0
 have HC0 := aM hc0
 clear hr0 hc0
 have HB := aM (Below.refl w.heap.size w)
 have H : (r05_Pack.l0 k l0 ([] : List Int) 0 0) = some r := h
 clear h
 have H' := aM H
 clear H
 go_enter Try.func25, Try.ntmps25
 go_wp2
 repeat (go_quiet (fail); try go_wp2)
 go_loopg [3, 4, 5] k (fun kq v3 v4 v5 w' => ∃ (x3_1 : List Int) (x4_1 : Int) (x5_1 : Int), v4 = .int .i64 x4_1 ∧ v5 = .int .i64 x5_1 ∧ Aside0 (r05_Pack.l0 kq l0 x3_1 x4_1 x5_1 = some r) ∧ Aside0 (kq ≤ k) ∧ Aside0 (Kd.R (Kd.int .u8) 5 w' w.heap.size (fun _ => True) v3 x3_1) ∧ Aside0 (Below w.heap.size w w'))
 case atStart => exact ⟨(([] : List Int)), (0), (0), (by first | rfl | (simp; done) | (simp [*]; done)), (by first | rfl | (simp; done) | (simp [*]; done)), H', ⟨Nat.le_refl _⟩, ⟨by first | exact Kd.R_nil _ _ _ _ _ | exact Kd.N_nil _ _ _ _ _ | exact Kd.V_nil _ _ _ _ _ | exact Kd.Q_nil _ _ _ _ _ | exact Kd.S_nil _ _ _ _ _⟩, ⟨xB HB.out⟩⟩
 case round =>
  clear H'
  obtain ⟨x3_1, x4_1, x5_1, rfl, rfl, HA, HK1, HO_3, HB⟩ := hrel
  cases gk with
  | zero => exact absurd HA.out (by simp [r05_Pack.l0])
  | succ k1 =>
   have H := HA.out
   clear HA
   simp only [r05_Pack.l0] at H
   by_cases c2 : (wrap64 ((l0.length : Int) - x5_1)) ≥ 4
   ·
    rw [if_pos c2] at H
    have c2b0 : decide (4 ≤ (wrap64 ((l0.length : Int) - x5_1))) = true := decide_eq_true c2
    clear c2
    replace H := Option.bind_eq_some_iff.mp H
    obtain ⟨t345, A30, H⟩ := H
    replace H : (if t345 < 0 then (r05_Pack.l0 k1 l0 x3_1 x4_1 (wrap64 (x5_1 + 1))) else (r05_Pack.l1 k1 l0 x3_1 x4_1 x5_1 t345 4)) = some r := H
    have A3 := aM A30
    clear A30
    by_cases c4 : t345 < 0
    ·
     rw [if_pos c4] at H
     have c4b0 : decide (t345 < 0) = true := decide_eq_true c4
     clear c4
     have H' := aM H
     clear H
     go_wp2_with (first | (go_at_call 50; (with_reducible refine (r05_before.calls k1 _ _ l0 x5_1 t345 _ ?side1 ?side2 A3.out).mono ?_); (case side1 => exact xC (Kd.C_below HR0.out HB.out)); (case side2 => exact HC0.out); rintro e w' ⟨rfl, ⟨nd, rfl⟩⟩; (try first | exact ⟨rfl, _, World.drewN_drewN _ _ _⟩ | exact ⟨rfl, _, Eq.trans (World.drewN_drewN _ _ _) (congrArg (World.drewN _) (Nat.add_assoc _ _ _))⟩)))
     repeat (go_quiet (first | (go_at_call 50; (with_reducible refine (r05_before.calls k1 _ _ l0 x5_1 t345 _ ?side1 ?side2 A3.out).mono ?_); (case side1 => exact xC (Kd.C_below HR0.out HB.out)); (case side2 => exact HC0.out); rintro e w' ⟨rfl, ⟨nd, rfl⟩⟩; (try first | exact ⟨rfl, _, World.drewN_drewN _ _ _⟩ | exact ⟨rfl, _, Eq.trans (World.drewN_drewN _ _ _) (congrArg (World.drewN _) (Nat.add_assoc _ _ _))⟩))); try go_wp2_with (first | (go_at_call 50; (with_reducible refine (r05_before.calls k1 _ _ l0 x5_1 t345 _ ?side1 ?side2 A3.out).mono ?_); (case side1 => exact xC (Kd.C_below HR0.out HB.out)); (case side2 => exact HC0.out); rintro e w' ⟨rfl, ⟨nd, rfl⟩⟩; (try first | exact ⟨rfl, _, World.drewN_drewN _ _ _⟩ | exact ⟨rfl, _, Eq.trans (World.drewN_drewN _ _ _) (congrArg (World.drewN _) (Nat.add_assoc _ _ _))⟩))))
     go_roundg k1
     case measure => have := HK1.out; omega
     case rel => exact ⟨(x3_1), (x4_1), (wrap64 (x5_1 + 1)), (by first | rfl | (simp; done) | (simp [*]; done)), (by first | rfl | (simp; done) | (simp [*]; done)), H', ⟨by have := HK1.out; omega⟩, ⟨by (with_reducible repeat (first | apply Kd.R_alloc | apply Kd.R_drewN | apply Kd.R_drew)); exact HO_3.out⟩, ⟨xB HB.out⟩⟩
    ·
     rw [if_neg c4] at H
     have c4b0 : decide (t345 < 0) = false := decide_eq_false c4
     clear c4
     have H' := aM H
     clear H
     go_wp2_with (first | (go_at_call 50; (with_reducible refine (r05_before.calls k1 _ _ l0 x5_1 t345 _ ?side1 ?side2 A3.out).mono ?_); (case side1 => exact xC (Kd.C_below HR0.out HB.out)); (case side2 => exact HC0.out); rintro e w' ⟨rfl, ⟨nd, rfl⟩⟩; (try first | exact ⟨rfl, _, World.drewN_drewN _ _ _⟩ | exact ⟨rfl, _, Eq.trans (World.drewN_drewN _ _ _) (congrArg (World.drewN _) (Nat.add_assoc _ _ _))⟩)))
     repeat (go_quiet (first | (go_at_call 50; (with_reducible refine (r05_before.calls k1 _ _ l0 x5_1 t345 _ ?side1 ?side2 A3.out).mono ?_); (case side1 => exact xC (Kd.C_below HR0.out HB.out)); (case side2 => exact HC0.out); rintro e w' ⟨rfl, ⟨nd, rfl⟩⟩; (try first | exact ⟨rfl, _, World.drewN_drewN _ _ _⟩ | exact ⟨rfl, _, Eq.trans (World.drewN_drewN _ _ _) (congrArg (World.drewN _) (Nat.add_assoc _ _ _))⟩))); try go_wp2_with (first | (go_at_call 50; (with_reducible refine (r05_before.calls k1 _ _ l0 x5_1 t345 _ ?side1 ?side2 A3.out).mono ?_); (case side1 => exact xC (Kd.C_below HR0.out HB.out)); (case side2 => exact HC0.out); rintro e w' ⟨rfl, ⟨nd, rfl⟩⟩; (try first | exact ⟨rfl, _, World.drewN_drewN _ _ _⟩ | exact ⟨rfl, _, Eq.trans (World.drewN_drewN _ _ _) (congrArg (World.drewN _) (Nat.add_assoc _ _ _))⟩))))
     go_loopg [7] k1 (fun kq v7 w' => ∃ (x7_2 : Int), v7 = .int .i64 x7_2 ∧ Aside0 (r05_Pack.l1 kq l0 x3_1 x4_1 x5_1 t345 x7_2 = some r) ∧ Aside0 (kq ≤ k1) ∧ Aside0 (Kd.R (Kd.int .u8) 5 w' w.heap.size (fun _ => True) u3 x3_1) ∧ Aside0 (Below w.heap.size w w'))
     case atStart => exact ⟨(4), (by first | rfl | (simp; done) | (simp [*]; done)), H', ⟨Nat.le_refl _⟩, ⟨by (with_reducible repeat (first | apply Kd.R_alloc | apply Kd.R_drewN | apply Kd.R_drew)); exact HO_3.out⟩, ⟨xB HB.out⟩⟩
     case round =>
      clear H'
      try clear c2
      try clear c2b0
      try clear p2
      try clear c4
      try clear c4b0
      obtain ⟨x7_2, rfl, HA, HK2, HO_3, HB⟩ := hrel
      cases gk with
      | zero => exact absurd HA.out (by simp [r05_Pack.l1])
      | succ k2 =>
       have H := HA.out
       clear HA
       simp only [r05_Pack.l1] at H
       by_cases c5 : (wrap64 (x5_1 + x7_2)) < (l0.length : Int)
       ·
        rw [if_pos c5] at H
        have c5b0 : decide ((wrap64 (x5_1 + x7_2)) < (l0.length : Int)) = true := decide_eq_true c5
        clear c5
        obtain ⟨ji6, hji6⟩ : ∃ j_ : Int, (wrap64 (x5_1 + x7_2)) = j_ := ⟨_, rfl⟩
        replace H : (if 0 ≤ (ji6) then (if 0 ≤ (wrap64 (t345 + x7_2)) then (if (wrap64 (t345 + x7_2)) < (l0.length : Int) then (if (rd l0 (ji6)) = (rd l0 (wrap64 (t345 + x7_2))) then (r05_Pack.l1 k2 l0 x3_1 x4_1 x5_1 t345 (wrap64 (x7_2 + 1))) else (if 0 ≤ x4_1 then (if x4_1 ≤ x5_1 then (if x5_1 ≤ (l0.length : Int) then ((r05_part.f k2 ((l0.take (x5_1 : Int).toNat).drop (x4_1 : Int).toNat) (wrap64 (x5_1 - t345)) x7_2).bind fun t352 => (if x3_1.length + t352.length < 140737488355328 then (r05_Pack.l0 k2 l0 (x3_1 ++ t352) ji6 ji6) else (none))) else (none)) else (none)) else (none))) else (none)) else (none)) else (none)) = some r := by first | (rw [hji6] at H; exact H) | (simp only [hji6] at H ⊢; exact H)
        (try rw [hji6] at c5b0)
        have hji6w : (IntKind.i64.wrap (x5_1 + x7_2)) = ji6 := (i64_w _).trans hji6
        by_cases c7 : 0 ≤ (ji6)
        ·
         rw [if_pos c7] at H
         have c7b0 : decide (0 ≤ (ji6)) = true := decide_eq_true c7
         clear c7
         obtain ⟨ji8, hji8⟩ : ∃ j_ : Int, (wrap64 (t345 + x7_2)) = j_ := ⟨_, rfl⟩
         replace H : (if 0 ≤ (ji8) then (if (ji8) < (l0.length : Int) then (if (rd l0 (ji6)) = (rd l0 (ji8)) then (r05_Pack.l1 k2 l0 x3_1 x4_1 x5_1 t345 (wrap64 (x7_2 + 1))) else (if 0 ≤ x4_1 then (if x4_1 ≤ x5_1 then (if x5_1 ≤ (l0.length : Int) then ((r05_part.f k2 ((l0.take (x5_1 : Int).toNat).drop (x4_1 : Int).toNat) (wrap64 (x5_1 - t345)) x7_2).bind fun t352 => (if x3_1.length + t352.length < 140737488355328 then (r05_Pack.l0 k2 l0 (x3_1 ++ t352) ji6 ji6) else (none))) else (none)) else (none)) else (none))) else (none)) else (none)) = some r := by first | (rw [hji8] at H; exact H) | (simp only [hji8] at H ⊢; exact H)
         have hji8w : (IntKind.i64.wrap (t345 + x7_2)) = ji8 := (i64_w _).trans hji8
         by_cases c9 : 0 ≤ (ji8)
         ·
          rw [if_pos c9] at H
          have c9b0 : decide (0 ≤ (ji8)) = true := decide_eq_true c9
          clear c9
          by_cases c10 : (ji8) < (l0.length : Int)
          ·
           rw [if_pos c10] at H
           have c10b0 : decide ((ji8) < (l0.length : Int)) = true := decide_eq_true c10
           clear c10
           by_cases c11 : (rd l0 (ji6)) = (rd l0 (ji8))
           ·
            rw [if_pos c11] at H
            have c11b0 : ((rd l0 (ji6)) == (rd l0 (ji8))) = true := beq_iff_eq.mpr c11
            have c11b1 : ((rd l0 (ji6)) != (rd l0 (ji8))) = false := bne_eq_false_iff_eq.mpr c11
            clear c11
            have H' := aM H
            clear H
            have p346 : 0 ≤ ((ji6) : Int) := of_decide_eq_true (by first | (with_reducible assumption) | assumption)
            have q346 : (ji6) < (l0.length : Int) := of_decide_eq_true (by first | (with_reducible assumption) | assumption)
            obtain ⟨ad346, e346, hx346_0⟩ := Kd.at_int HR0.out (ji6) p346 q346
            cases e346
            replace hx346_0 := (HB.out.cell (World.block_lt_of_cell? w _ hx346_0)).trans hx346_0
            replace p346 := eq_true p346
            replace q346 := eq_true q346
            have p347 : 0 ≤ ((ji8) : Int) := of_decide_eq_true (by first | (with_reducible assumption) | assumption)
            have q347 : (ji8) < (l0.length : Int) := of_decide_eq_true (by first | (with_reducible assumption) | assumption)
            obtain ⟨ad347, e347, hx347_0⟩ := Kd.at_int HR0.out (ji8) p347 q347
            obtain rfl : ad346 = ad347 := (by injection e347)
            replace hx347_0 := (HB.out.cell (World.block_lt_of_cell? w _ hx347_0)).trans hx347_0
            replace p347 := eq_true p347
            replace q347 := eq_true q347
            go_wp2
            repeat (go_quiet (fail); try go_wp2)
            go_roundg k2
            case measure => have := HK1.out; have := HK2.out; omega
            case rel => exact ⟨(wrap64 (x7_2 + 1)), (by first | rfl | (simp; done) | (simp [*]; done)), H', ⟨by have := HK1.out; have := HK2.out; omega⟩, ⟨by (with_reducible repeat (first | apply Kd.R_alloc | apply Kd.R_drewN | apply Kd.R_drew)); exact HO_3.out⟩, ⟨xB HB.out⟩⟩
           ·
            rw [if_neg c11] at H
            have c11b0 : ((rd l0 (ji6)) == (rd l0 (ji8))) = false := beq_eq_false_iff_ne.mpr c11
            have c11b1 : ((rd l0 (ji6)) != (rd l0 (ji8))) = true := bne_iff_ne.mpr c11
            by_cases c12 : 0 ≤ x4_1
            ·
             rw [if_pos c12] at H
             have c12b0 := eq_true c12
             have c12b1 : decide (0 ≤ x4_1) = true := decide_eq_true c12
             clear c12
             by_cases c13 : x4_1 ≤ x5_1
             ·
              rw [if_pos c13] at H
              have c13b0 := eq_true c13
              have c13b1 : decide (x4_1 ≤ x5_1) = true := decide_eq_true c13
              clear c13
              by_cases c14 : x5_1 ≤ (l0.length : Int)
              ·
               rw [if_pos c14] at H
               have c14b0 := eq_true c14
               have c14b1 : decide (x5_1 ≤ (l0.length : Int)) = true := decide_eq_true c14
               clear c14
               obtain ⟨y348, hy348⟩ : ∃ y_ : List Int, y_ = ((l0.take (x5_1 : Int).toNat).drop (x4_1 : Int).toNat) := ⟨_, rfl⟩
               replace H : ((r05_part.f k2 y348 (wrap64 (x5_1 - t345)) x7_2).bind fun t352 => (if x3_1.length + t352.length < 140737488355328 then (r05_Pack.l0 k2 l0 (x3_1 ++ t352) ji6 ji6) else (none))) = some r := by first | (rw [hy348]; with_reducible exact H) | (have H2_ := (Option.bind_some _ _).symm.trans H; rw [hy348]; with_reducible exact H2_) | (have H2_ := (Option.bind_some _ _).symm.trans H; with_reducible exact H2_) | with_reducible exact H | (rw [hy348]; exact H) | exact H
               have Ny348 := aM hy348
               clear hy348
               replace H := Option.bind_eq_some_iff.mp H
               obtain ⟨t352, A150, H⟩ := H
               replace H : (if x3_1.length + t352.length < 140737488355328 then (r05_Pack.l0 k2 l0 (x3_1 ++ t352) ji6 ji6) else (none)) = some r := H
               have A15 := aM A150
               clear A150
               by_cases c16 : x3_1.length + t352.length < 140737488355328
               ·
                rw [if_pos c16] at H
                have LMc16 := aM c16
                clear c16
                obtain ⟨y355, hy355⟩ : ∃ y_ : List Int, y_ = (x3_1 ++ t352) := ⟨_, rfl⟩
                replace H : (r05_Pack.l0 k2 l0 y355 ji6 ji6) = some r := by first | (rw [hy355]; with_reducible exact H) | (have H2_ := (Option.bind_some _ _).symm.trans H; rw [hy355]; with_reducible exact H2_) | (have H2_ := (Option.bind_some _ _).symm.trans H; with_reducible exact H2_) | with_reducible exact H | (rw [hy355]; exact H) | exact H
                have Ny355 := aM hy355
                clear hy355
                have H' := aM H
                clear H
                have p346 : 0 ≤ ((ji6) : Int) := of_decide_eq_true (by first | (with_reducible assumption) | assumption)
                have q346 : (ji6) < (l0.length : Int) := of_decide_eq_true (by first | (with_reducible assumption) | assumption)
                obtain ⟨ad346, e346, hx346_0⟩ := Kd.at_int HR0.out (ji6) p346 q346
                cases e346
                replace hx346_0 := (HB.out.cell (World.block_lt_of_cell? w _ hx346_0)).trans hx346_0
                replace p346 := eq_true p346
                replace q346 := eq_true q346
                have p347 : 0 ≤ ((ji8) : Int) := of_decide_eq_true (by first | (with_reducible assumption) | assumption)
                have q347 : (ji8) < (l0.length : Int) := of_decide_eq_true (by first | (with_reducible assumption) | assumption)
                obtain ⟨ad347, e347, hx347_0⟩ := Kd.at_int HR0.out (ji8) p347 q347
                obtain rfl : ad346 = ad347 := (by injection e347)
                replace hx347_0 := (HB.out.cell (World.block_lt_of_cell? w _ hx347_0)).trans hx347_0
                replace p347 := eq_true p347
                replace q347 := eq_true q347
                have q17 : (x5_1 : Int) ≤ ((l0.length : Int) : Int) := of_decide_eq_true (by first | (with_reducible assumption) | assumption)
                obtain ⟨i017, hi017, _, hsz17, _⟩ := info_parts info5
                have hroom17 : l0.length ≤ c0 := HC0.out
                have hC17 : Kd.C (Kd.int .u8) _ (some ad346) l0.length l0 := HR0.out
                have ql17 : (x4_1 : Int) ≤ (x5_1 : Int) := of_decide_eq_true (by first | (with_reducible assumption) | assumption)
                have q017 : (0 : Int) ≤ (x4_1 : Int) := of_decide_eq_true (by first | (with_reducible assumption) | assumption)
                have hcut17 := cut_mid (P := Try.prog) 22 5 .i64 .i64 Try.underlying22 hi017 1 hsz17 (some ad346) l0.length c0 x4_1 x5_1 q017 ql17 q17 hroom17
                have hr17 := Kd.C_mid (lo := (x4_1 : Int).toNat) (hi := (x5_1 : Int).toNat) (c := c0) hC17 (by omega) (by omega) hroom17
                obtain ⟨A17, hA17⟩ : ∃ A_z, A_z = (if c0 = (x4_1 : Int).toNat then (some ad346) else ((some ad346) : Option Addr).map (·.add ((x4_1 : Int).toNat * 1))) := ⟨_, rfl⟩
                obtain ⟨c17, hc17⟩ : ∃ c_z, c_z = c0 - (x4_1 : Int).toNat := ⟨_, rfl⟩
                have hy17 : y348.length = (x5_1 : Int).toNat - (x4_1 : Int).toNat := (by rw [Ny348.out, List.length_drop, List.length_take] <;> omega)
                rw [show ((l0).take (x5_1 : Int).toNat).drop (x4_1 : Int).toNat = y348 from Ny348.out.symm] at hr17
                replace hr17 : Kd.C (Kd.int .u8) _ A17 y348.length y348 := (by rw [hA17]; exact hr17)
                rw [← hy17, ← hA17, ← hc17] at hcut17
                have HR351 := aM hr17
                have HC351 := aM (show y348.length ≤ c17 from by rw [hy17, hc17]; exact Nat.sub_le_sub_right (Nat.le_trans (by omega) hroom17) _)
                clear hr17 hC17 hroom17 hi017 hsz17 hc17
                have KY17 := aM hy17
                have KA17 := aM hA17
                clear hy17 hA17
                replace q17 := eq_true q17
                go_wp2_with (first | (go_at_call 51; (with_reducible refine (r05_part.calls k2 _ _ y348 (wrap64 (x5_1 - t345)) x7_2 t352 _ ?side1 ?side2 A15.out).mono ?_); (case side1 => exact xC (Kd.C_below HR351.out HB.out)); (case side2 => exact HC351.out); rintro e w18 ⟨v353, rfl, ho0, hb⟩; have n0_ := aM (Kd.R_elder' (xR HO_3.out) (Kd.R_base ho0) hb); have n1_ := aM (Kd.R_lower (Kd.R_new' ho0 (Kd.R_lt (xR HO_3.out))) (below_size (xB HB.out))); have n2_ := aM (below_step (xB HB.out) hb); clear HO_3; clear HB; have HO_3 := n0_; have HO354 := n1_; have HB := n2_; clear n0_ n1_ n2_; (try clear hb); (try clear hb2); (try clear hk); (try clear hi); (try clear ho0); obtain ⟨Ao20, co20, eo20⟩ := Kd.R_slice HO354.out; subst eo20) | ((with_reducible refine gate_builtin (b := .append) (xs := #[.tmp 43, .tmp 52]) rfl ?_); at_builtin; refine Kd.R_append_rows (Kd.int .u8) (w0 := w) w.heap.size rfl (.tmp 43) (.tmp 52) 22 5 (.int .u8 0) 1 rfl Try.underlying22 info5 rfl (by decide) (by omega) u3 x3_1 t352 _ _ _ (fun k_ => some k_ ≠ (.slice Ao20 t352.length co20 : Value).ownBlock) (fun _ => False) rfl rfl ?aO ?aR (fun _ _ h => h) (fun _ h => h.elim) ?aF ?aB ?aS ?aL ?_; (case aR => exact xC ((Kd.R_reads' HO354.out).2.2)); (case aB => exact (xB HB.out)); (case aF => exact (fun k_ hk => Kd.fresh' (Kd.R_lt (xR HO354.out)) k_ hk)); (case aO => exact (by (with_reducible repeat (first | apply Kd.R_alloc | apply Kd.R_drewN | apply Kd.R_drew)); exact Kd.R_mono HO_3.out (fun _ hk => hk.2))); (case aS => exact (below_size (xB HB.out))); (case aL => have := LMc16.out; omega); intro v356 w19 ho hb hg hat; rw [← Ny355.out] at ho; have n0_ := aM (Kd.R_after (ok := (fun _ => True)) (xR HO354.out) hg hat); have n1_ := aM (hb); have n2_ := aM (ho); clear HO354; clear HB; clear HO_3; have HO354 := n0_; have HB := n1_; have HO357 := n2_; clear n0_ n1_ n2_; clear ho hb hg hat))
                repeat (go_quiet (first | (go_at_call 51; (with_reducible refine (r05_part.calls k2 _ _ y348 (wrap64 (x5_1 - t345)) x7_2 t352 _ ?side1 ?side2 A15.out).mono ?_); (case side1 => exact xC (Kd.C_below HR351.out HB.out)); (case side2 => exact HC351.out); rintro e w18 ⟨v353, rfl, ho0, hb⟩; have n0_ := aM (Kd.R_elder' (xR HO_3.out) (Kd.R_base ho0) hb); have n1_ := aM (Kd.R_lower (Kd.R_new' ho0 (Kd.R_lt (xR HO_3.out))) (below_size (xB HB.out))); have n2_ := aM (below_step (xB HB.out) hb); clear HO_3; clear HB; have HO_3 := n0_; have HO354 := n1_; have HB := n2_; clear n0_ n1_ n2_; (try clear hb); (try clear hb2); (try clear hk); (try clear hi); (try clear ho0); obtain ⟨Ao20, co20, eo20⟩ := Kd.R_slice HO354.out; subst eo20) | ((with_reducible refine gate_builtin (b := .append) (xs := #[.tmp 43, .tmp 52]) rfl ?_); at_builtin; refine Kd.R_append_rows (Kd.int .u8) (w0 := w) w.heap.size rfl (.tmp 43) (.tmp 52) 22 5 (.int .u8 0) 1 rfl Try.underlying22 info5 rfl (by decide) (by omega) u3 x3_1 t352 _ _ _ (fun k_ => some k_ ≠ (.slice Ao20 t352.length co20 : Value).ownBlock) (fun _ => False) rfl rfl ?aO ?aR (fun _ _ h => h) (fun _ h => h.elim) ?aF ?aB ?aS ?aL ?_; (case aR => exact xC ((Kd.R_reads' HO354.out).2.2)); (case aB => exact (xB HB.out)); (case aF => exact (fun k_ hk => Kd.fresh' (Kd.R_lt (xR HO354.out)) k_ hk)); (case aO => exact (by (with_reducible repeat (first | apply Kd.R_alloc | apply Kd.R_drewN | apply Kd.R_drew)); exact Kd.R_mono HO_3.out (fun _ hk => hk.2))); (case aS => exact (below_size (xB HB.out))); (case aL => have := LMc16.out; omega); intro v356 w19 ho hb hg hat; rw [← Ny355.out] at ho; have n0_ := aM (Kd.R_after (ok := (fun _ => True)) (xR HO354.out) hg hat); have n1_ := aM (hb); have n2_ := aM (ho); clear HO354; clear HB; clear HO_3; have HO354 := n0_; have HB := n1_; have HO357 := n2_; clear n0_ n1_ n2_; clear ho hb hg hat)); try go_wp2_with (first | (go_at_call 51; (with_reducible refine (r05_part.calls k2 _ _ y348 (wrap64 (x5_1 - t345)) x7_2 t352 _ ?side1 ?side2 A15.out).mono ?_); (case side1 => exact xC (Kd.C_below HR351.out HB.out)); (case side2 => exact HC351.out); rintro e w18 ⟨v353, rfl, ho0, hb⟩; have n0_ := aM (Kd.R_elder' (xR HO_3.out) (Kd.R_base ho0) hb); have n1_ := aM (Kd.R_lower (Kd.R_new' ho0 (Kd.R_lt (xR HO_3.out))) (below_size (xB HB.out))); have n2_ := aM (below_step (xB HB.out) hb); clear HO_3; clear HB; have HO_3 := n0_; have HO354 := n1_; have HB := n2_; clear n0_ n1_ n2_; (try clear hb); (try clear hb2); (try clear hk); (try clear hi); (try clear ho0); obtain ⟨Ao20, co20, eo20⟩ := Kd.R_slice HO354.out; subst eo20) | ((with_reducible refine gate_builtin (b := .append) (xs := #[.tmp 43, .tmp 52]) rfl ?_); at_builtin; refine Kd.R_append_rows (Kd.int .u8) (w0 := w) w.heap.size rfl (.tmp 43) (.tmp 52) 22 5 (.int .u8 0) 1 rfl Try.underlying22 info5 rfl (by decide) (by omega) u3 x3_1 t352 _ _ _ (fun k_ => some k_ ≠ (.slice Ao20 t352.length co20 : Value).ownBlock) (fun _ => False) rfl rfl ?aO ?aR (fun _ _ h => h) (fun _ h => h.elim) ?aF ?aB ?aS ?aL ?_; (case aR => exact xC ((Kd.R_reads' HO354.out).2.2)); (case aB => exact (xB HB.out)); (case aF => exact (fun k_ hk => Kd.fresh' (Kd.R_lt (xR HO354.out)) k_ hk)); (case aO => exact (by (with_reducible repeat (first | apply Kd.R_alloc | apply Kd.R_drewN | apply Kd.R_drew)); exact Kd.R_mono HO_3.out (fun _ hk => hk.2))); (case aS => exact (below_size (xB HB.out))); (case aL => have := LMc16.out; omega); intro v356 w19 ho hb hg hat; rw [← Ny355.out] at ho; have n0_ := aM (Kd.R_after (ok := (fun _ => True)) (xR HO354.out) hg hat); have n1_ := aM (hb); have n2_ := aM (ho); clear HO354; clear HB; clear HO_3; have HO354 := n0_; have HB := n1_; have HO357 := n2_; clear n0_ n1_ n2_; clear ho hb hg hat)))
                go_roundg k2
                case measure => have := HK1.out; have := HK2.out; omega
                case rel => exact ⟨(y355), (ji6), (ji6), (by first | rfl | (simp; done) | (simp only [← hji6] <;> (first | rfl | simp)) | (simp [*]; done)), (by first | rfl | (simp; done) | (simp only [← hji6] <;> (first | rfl | simp)) | (simp [*]; done)), H', ⟨by have := HK1.out; have := HK2.out; omega⟩, ⟨by (with_reducible repeat (first | apply Kd.R_alloc | apply Kd.R_drewN | apply Kd.R_drew)); exact Kd.R_mono HO357.out (fun _ hk => trivial)⟩, ⟨xB HB.out⟩⟩
               ·
                rw [if_neg c16] at H
                exact absurd H (by simp)
              ·
               rw [if_neg c14] at H
               exact absurd H (by simp)
             ·
              rw [if_neg c13] at H
              exact absurd H (by simp)
            ·
             rw [if_neg c12] at H
             exact absurd H (by simp)
          ·
           rw [if_neg c10] at H
           exact absurd H (by simp)
         ·
          rw [if_neg c9] at H
          exact absurd H (by simp)
        ·
         rw [if_neg c7] at H
         exact absurd H (by simp)
       ·
        rw [if_neg c5] at H
        have c5b0 : decide ((wrap64 (x5_1 + x7_2)) < (l0.length : Int)) = false := decide_eq_false c5
        clear c5
        by_cases c21 : 0 ≤ x4_1
        ·
         rw [if_pos c21] at H
         have c21b0 := eq_true c21
         have c21b1 : decide (0 ≤ x4_1) = true := decide_eq_true c21
         clear c21
         by_cases c22 : x4_1 ≤ x5_1
         ·
          rw [if_pos c22] at H
          have c22b0 := eq_true c22
          have c22b1 : decide (x4_1 ≤ x5_1) = true := decide_eq_true c22
          clear c22
          by_cases c23 : x5_1 ≤ (l0.length : Int)
          ·
           rw [if_pos c23] at H
           have c23b0 := eq_true c23
           have c23b1 : decide (x5_1 ≤ (l0.length : Int)) = true := decide_eq_true c23
           clear c23
           obtain ⟨y358, hy358⟩ : ∃ y_ : List Int, y_ = ((l0.take (x5_1 : Int).toNat).drop (x4_1 : Int).toNat) := ⟨_, rfl⟩
           replace H : ((r05_part.f k2 y358 (wrap64 (x5_1 - t345)) x7_2).bind fun t362 => (if x3_1.length + t362.length < 140737488355328 then (r05_Pack.l0 k2 l0 (x3_1 ++ t362) (wrap64 (x5_1 + x7_2)) (wrap64 (x5_1 + x7_2))) else (none))) = some r := by first | (rw [hy358]; with_reducible exact H) | (have H2_ := (Option.bind_some _ _).symm.trans H; rw [hy358]; with_reducible exact H2_) | (have H2_ := (Option.bind_some _ _).symm.trans H; with_reducible exact H2_) | with_reducible exact H | (rw [hy358]; exact H) | exact H
           have Ny358 := aM hy358
           clear hy358
           replace H := Option.bind_eq_some_iff.mp H
           obtain ⟨t362, A240, H⟩ := H
           replace H : (if x3_1.length + t362.length < 140737488355328 then (r05_Pack.l0 k2 l0 (x3_1 ++ t362) (wrap64 (x5_1 + x7_2)) (wrap64 (x5_1 + x7_2))) else (none)) = some r := H
           have A24 := aM A240
           clear A240
           by_cases c25 : x3_1.length + t362.length < 140737488355328
           ·
            rw [if_pos c25] at H
            have LMc25 := aM c25
            clear c25
            obtain ⟨y365, hy365⟩ : ∃ y_ : List Int, y_ = (x3_1 ++ t362) := ⟨_, rfl⟩
            replace H : (r05_Pack.l0 k2 l0 y365 (wrap64 (x5_1 + x7_2)) (wrap64 (x5_1 + x7_2))) = some r := by first | (rw [hy365]; with_reducible exact H) | (have H2_ := (Option.bind_some _ _).symm.trans H; rw [hy365]; with_reducible exact H2_) | (have H2_ := (Option.bind_some _ _).symm.trans H; with_reducible exact H2_) | with_reducible exact H | (rw [hy365]; exact H) | exact H
            have Ny365 := aM hy365
            clear hy365
            have H' := aM H
            clear H
            have q26 : (x5_1 : Int) ≤ ((l0.length : Int) : Int) := of_decide_eq_true (by first | (with_reducible assumption) | assumption)
            obtain ⟨i026, hi026, _, hsz26, _⟩ := info_parts info5
            have hroom26 : l0.length ≤ c0 := HC0.out
            have hC26 : Kd.C (Kd.int .u8) _ A0 l0.length l0 := HR0.out
            have ql26 : (x4_1 : Int) ≤ (x5_1 : Int) := of_decide_eq_true (by first | (with_reducible assumption) | assumption)
            have q026 : (0 : Int) ≤ (x4_1 : Int) := of_decide_eq_true (by first | (with_reducible assumption) | assumption)
            have hcut26 := cut_mid (P := Try.prog) 22 5 .i64 .i64 Try.underlying22 hi026 1 hsz26 A0 l0.length c0 x4_1 x5_1 q026 ql26 q26 hroom26
            have hr26 := Kd.C_mid (lo := (x4_1 : Int).toNat) (hi := (x5_1 : Int).toNat) (c := c0) hC26 (by omega) (by omega) hroom26
            obtain ⟨A26, hA26⟩ : ∃ A_z, A_z = (if c0 = (x4_1 : Int).toNat then A0 else (A0 : Option Addr).map (·.add ((x4_1 : Int).toNat * 1))) := ⟨_, rfl⟩
            obtain ⟨c26, hc26⟩ : ∃ c_z, c_z = c0 - (x4_1 : Int).toNat := ⟨_, rfl⟩
            have hy26 : y358.length = (x5_1 : Int).toNat - (x4_1 : Int).toNat := (by rw [Ny358.out, List.length_drop, List.length_take] <;> omega)
            rw [show ((l0).take (x5_1 : Int).toNat).drop (x4_1 : Int).toNat = y358 from Ny358.out.symm] at hr26
            replace hr26 : Kd.C (Kd.int .u8) _ A26 y358.length y358 := (by rw [hA26]; exact hr26)
            rw [← hy26, ← hA26, ← hc26] at hcut26
            have HR361 := aM hr26
            have HC361 := aM (show y358.length ≤ c26 from by rw [hy26, hc26]; exact Nat.sub_le_sub_right (Nat.le_trans (by omega) hroom26) _)
            clear hr26 hC26 hroom26 hi026 hsz26 hc26
            have KY26 := aM hy26
            have KA26 := aM hA26
            clear hy26 hA26
            replace q26 := eq_true q26
            go_wp2_with (first | (go_at_call 51; (with_reducible refine (r05_part.calls k2 _ _ y358 (wrap64 (x5_1 - t345)) x7_2 t362 _ ?side1 ?side2 A24.out).mono ?_); (case side1 => exact xC (Kd.C_below HR361.out HB.out)); (case side2 => exact HC361.out); rintro e w27 ⟨v363, rfl, ho0, hb⟩; have n0_ := aM (Kd.R_elder' (xR HO_3.out) (Kd.R_base ho0) hb); have n1_ := aM (Kd.R_lower (Kd.R_new' ho0 (Kd.R_lt (xR HO_3.out))) (below_size (xB HB.out))); have n2_ := aM (below_step (xB HB.out) hb); clear HO_3; clear HB; have HO_3 := n0_; have HO364 := n1_; have HB := n2_; clear n0_ n1_ n2_; (try clear hb); (try clear hb2); (try clear hk); (try clear hi); (try clear ho0); obtain ⟨Ao29, co29, eo29⟩ := Kd.R_slice HO364.out; subst eo29) | ((with_reducible refine gate_builtin (b := .append) (xs := #[.tmp 43, .tmp 52]) rfl ?_); at_builtin; refine Kd.R_append_rows (Kd.int .u8) (w0 := w) w.heap.size rfl (.tmp 43) (.tmp 52) 22 5 (.int .u8 0) 1 rfl Try.underlying22 info5 rfl (by decide) (by omega) u3 x3_1 t362 _ _ _ (fun k_ => some k_ ≠ (.slice Ao29 t362.length co29 : Value).ownBlock) (fun _ => False) rfl rfl ?aO ?aR (fun _ _ h => h) (fun _ h => h.elim) ?aF ?aB ?aS ?aL ?_; (case aR => exact xC ((Kd.R_reads' HO364.out).2.2)); (case aB => exact (xB HB.out)); (case aF => exact (fun k_ hk => Kd.fresh' (Kd.R_lt (xR HO364.out)) k_ hk)); (case aO => exact (by (with_reducible repeat (first | apply Kd.R_alloc | apply Kd.R_drewN | apply Kd.R_drew)); exact Kd.R_mono HO_3.out (fun _ hk => hk.2))); (case aS => exact (below_size (xB HB.out))); (case aL => have := LMc25.out; omega); intro v366 w28 ho hb hg hat; rw [← Ny365.out] at ho; have n0_ := aM (Kd.R_after (ok := (fun _ => True)) (xR HO364.out) hg hat); have n1_ := aM (hb); have n2_ := aM (ho); clear HO364; clear HB; clear HO_3; have HO364 := n0_; have HB := n1_; have HO367 := n2_; clear n0_ n1_ n2_; clear ho hb hg hat))
            repeat (go_quiet (first | (go_at_call 51; (with_reducible refine (r05_part.calls k2 _ _ y358 (wrap64 (x5_1 - t345)) x7_2 t362 _ ?side1 ?side2 A24.out).mono ?_); (case side1 => exact xC (Kd.C_below HR361.out HB.out)); (case side2 => exact HC361.out); rintro e w27 ⟨v363, rfl, ho0, hb⟩; have n0_ := aM (Kd.R_elder' (xR HO_3.out) (Kd.R_base ho0) hb); have n1_ := aM (Kd.R_lower (Kd.R_new' ho0 (Kd.R_lt (xR HO_3.out))) (below_size (xB HB.out))); have n2_ := aM (below_step (xB HB.out) hb); clear HO_3; clear HB; have HO_3 := n0_; have HO364 := n1_; have HB := n2_; clear n0_ n1_ n2_; (try clear hb); (try clear hb2); (try clear hk); (try clear hi); (try clear ho0); obtain ⟨Ao29, co29, eo29⟩ := Kd.R_slice HO364.out; subst eo29) | ((with_reducible refine gate_builtin (b := .append) (xs := #[.tmp 43, .tmp 52]) rfl ?_); at_builtin; refine Kd.R_append_rows (Kd.int .u8) (w0 := w) w.heap.size rfl (.tmp 43) (.tmp 52) 22 5 (.int .u8 0) 1 rfl Try.underlying22 info5 rfl (by decide) (by omega) u3 x3_1 t362 _ _ _ (fun k_ => some k_ ≠ (.slice Ao29 t362.length co29 : Value).ownBlock) (fun _ => False) rfl rfl ?aO ?aR (fun _ _ h => h) (fun _ h => h.elim) ?aF ?aB ?aS ?aL ?_; (case aR => exact xC ((Kd.R_reads' HO364.out).2.2)); (case aB => exact (xB HB.out)); (case aF => exact (fun k_ hk => Kd.fresh' (Kd.R_lt (xR HO364.out)) k_ hk)); (case aO => exact (by (with_reducible repeat (first | apply Kd.R_alloc | apply Kd.R_drewN | apply Kd.R_drew)); exact Kd.R_mono HO_3.out (fun _ hk => hk.2))); (case aS => exact (below_size (xB HB.out))); (case aL => have := LMc25.out; omega); intro v366 w28 ho hb hg hat; rw [← Ny365.out] at ho; have n0_ := aM (Kd.R_after (ok := (fun _ => True)) (xR HO364.out) hg hat); have n1_ := aM (hb); have n2_ := aM (ho); clear HO364; clear HB; clear HO_3; have HO364 := n0_; have HB := n1_; have HO367 := n2_; clear n0_ n1_ n2_; clear ho hb hg hat)); try go_wp2_with (first | (go_at_call 51; (with_reducible refine (r05_part.calls k2 _ _ y358 (wrap64 (x5_1 - t345)) x7_2 t362 _ ?side1 ?side2 A24.out).mono ?_); (case side1 => exact xC (Kd.C_below HR361.out HB.out)); (case side2 => exact HC361.out); rintro e w27 ⟨v363, rfl, ho0, hb⟩; have n0_ := aM (Kd.R_elder' (xR HO_3.out) (Kd.R_base ho0) hb); have n1_ := aM (Kd.R_lower (Kd.R_new' ho0 (Kd.R_lt (xR HO_3.out))) (below_size (xB HB.out))); have n2_ := aM (below_step (xB HB.out) hb); clear HO_3; clear HB; have HO_3 := n0_; have HO364 := n1_; have HB := n2_; clear n0_ n1_ n2_; (try clear hb); (try clear hb2); (try clear hk); (try clear hi); (try clear ho0); obtain ⟨Ao29, co29, eo29⟩ := Kd.R_slice HO364.out; subst eo29) | ((with_reducible refine gate_builtin (b := .append) (xs := #[.tmp 43, .tmp 52]) rfl ?_); at_builtin; refine Kd.R_append_rows (Kd.int .u8) (w0 := w) w.heap.size rfl (.tmp 43) (.tmp 52) 22 5 (.int .u8 0) 1 rfl Try.underlying22 info5 rfl (by decide) (by omega) u3 x3_1 t362 _ _ _ (fun k_ => some k_ ≠ (.slice Ao29 t362.length co29 : Value).ownBlock) (fun _ => False) rfl rfl ?aO ?aR (fun _ _ h => h) (fun _ h => h.elim) ?aF ?aB ?aS ?aL ?_; (case aR => exact xC ((Kd.R_reads' HO364.out).2.2)); (case aB => exact (xB HB.out)); (case aF => exact (fun k_ hk => Kd.fresh' (Kd.R_lt (xR HO364.out)) k_ hk)); (case aO => exact (by (with_reducible repeat (first | apply Kd.R_alloc | apply Kd.R_drewN | apply Kd.R_drew)); exact Kd.R_mono HO_3.out (fun _ hk => hk.2))); (case aS => exact (below_size (xB HB.out))); (case aL => have := LMc25.out; omega); intro v366 w28 ho hb hg hat; rw [← Ny365.out] at ho; have n0_ := aM (Kd.R_after (ok := (fun _ => True)) (xR HO364.out) hg hat); have n1_ := aM (hb); have n2_ := aM (ho); clear HO364; clear HB; clear HO_3; have HO364 := n0_; have HB := n1_; have HO367 := n2_; clear n0_ n1_ n2_; clear ho hb hg hat)))
            go_roundg k2
            case measure => have := HK1.out; have := HK2.out; omega
            case rel => exact ⟨(y365), (wrap64 (x5_1 + x7_2)), (wrap64 (x5_1 + x7_2)), (by first | rfl | (simp; done) | (simp [*]; done)), (by first | rfl | (simp; done) | (simp [*]; done)), H', ⟨by have := HK1.out; have := HK2.out; omega⟩, ⟨by (with_reducible repeat (first | apply Kd.R_alloc | apply Kd.R_drewN | apply Kd.R_drew)); exact Kd.R_mono HO367.out (fun _ hk => trivial)⟩, ⟨xB HB.out⟩⟩
           ·
            rw [if_neg c25] at H
            exact absurd H (by simp)
          ·
           rw [if_neg c23] at H
           exact absurd H (by simp)
         ·
          rw [if_neg c22] at H
          exact absurd H (by simp)
        ·
         rw [if_neg c21] at H
         exact absurd H (by simp)
   ·
    rw [if_neg c2] at H
    have c2b0 : decide (4 ≤ (wrap64 ((l0.length : Int) - x5_1))) = false := decide_eq_false c2
    clear c2
    by_cases c30 : 0 ≤ x4_1
    ·
     rw [if_pos c30] at H
     have c30b0 := eq_true c30
     have c30b1 : decide (0 ≤ x4_1) = true := decide_eq_true c30
     clear c30
     by_cases c31 : x4_1 ≤ (l0.length : Int)
     ·
      rw [if_pos c31] at H
      have c31b0 := eq_true c31
      have c31b1 : decide (x4_1 ≤ (l0.length : Int)) = true := decide_eq_true c31
      clear c31
      obtain ⟨y335, hy335⟩ : ∃ y_ : List Int, y_ = (l0.drop (x4_1 : Int).toNat) := ⟨_, rfl⟩
      replace H : ((r05_part.f k1 y335 0 0).bind fun t339 => (if x3_1.length + t339.length < 140737488355328 then (some (x3_1 ++ t339)) else (none))) = some r := by first | (rw [hy335]; with_reducible exact H) | (have H2_ := (Option.bind_some _ _).symm.trans H; rw [hy335]; with_reducible exact H2_) | (have H2_ := (Option.bind_some _ _).symm.trans H; with_reducible exact H2_) | with_reducible exact H | (rw [hy335]; exact H) | exact H
      have Ny335 := aM hy335
      clear hy335
      replace H := Option.bind_eq_some_iff.mp H
      obtain ⟨t339, A320, H⟩ := H
      replace H : (if x3_1.length + t339.length < 140737488355328 then (some (x3_1 ++ t339)) else (none)) = some r := H
      have A32 := aM A320
      clear A320
      by_cases c33 : x3_1.length + t339.length < 140737488355328
      ·
       rw [if_pos c33] at H
       have LMc33 := aM c33
       clear c33
       obtain ⟨y342, hy342⟩ : ∃ y_ : List Int, y_ = (x3_1 ++ t339) := ⟨_, rfl⟩
       replace H : (some y342) = some r := by first | (rw [hy342]; with_reducible exact H) | (have H2_ := (Option.bind_some _ _).symm.trans H; rw [hy342]; with_reducible exact H2_) | (have H2_ := (Option.bind_some _ _).symm.trans H; with_reducible exact H2_) | with_reducible exact H | (rw [hy342]; exact H) | exact H
       have Ny342 := aM hy342
       clear hy342
       obtain rfl := Option.some.inj H
       have q34 : (x4_1 : Int) ≤ ((l0.length : Int) : Int) := of_decide_eq_true (by first | (with_reducible assumption) | assumption)
       obtain ⟨i034, hi034, _, hsz34, _⟩ := info_parts info5
       have hroom34 : l0.length ≤ c0 := HC0.out
       have hC34 : Kd.C (Kd.int .u8) _ A0 l0.length l0 := HR0.out
       have q034 : (0 : Int) ≤ (x4_1 : Int) := of_decide_eq_true (by first | (with_reducible assumption) | assumption)
       have hcut34 := cut_from (P := Try.prog) 22 5 .i64 Try.underlying22 hi034 1 hsz34 A0 l0.length c0 x4_1 q034 q34
       have hr34 := Kd.C_drop (m := (x4_1 : Int).toNat) (c := c0) hC34 (by omega) hroom34
       obtain ⟨A34, hA34⟩ : ∃ A_z, A_z = (if c0 = (x4_1 : Int).toNat then A0 else (A0 : Option Addr).map (·.add ((x4_1 : Int).toNat * 1))) := ⟨_, rfl⟩
       obtain ⟨c34, hc34⟩ : ∃ c_z, c_z = c0 - (x4_1 : Int).toNat := ⟨_, rfl⟩
       have hy34 : y335.length = l0.length - (x4_1 : Int).toNat := (by rw [Ny335.out, List.length_drop] <;> omega)
       rw [show (l0).drop (x4_1 : Int).toNat = y335 from Ny335.out.symm] at hr34
       replace hr34 : Kd.C (Kd.int .u8) _ A34 y335.length y335 := (by rw [hA34]; exact hr34)
       rw [← hy34, ← hA34, ← hc34] at hcut34
       have HR338 := aM hr34
       have HC338 := aM (show y335.length ≤ c34 from by rw [hy34, hc34]; exact Nat.sub_le_sub_right hroom34 _)
       clear hr34 hC34 hroom34 hi034 hsz34 hc34
       have KY34 := aM hy34
       have KA34 := aM hA34
       clear hy34 hA34
       replace q34 := eq_true q34
       go_wp2_with (first | (go_at_call 51; (with_reducible refine (r05_part.calls k1 _ _ y335 0 0 t339 _ ?side1 ?side2 A32.out).mono ?_); (case side1 => exact xC (Kd.C_below HR338.out HB.out)); (case side2 => exact HC338.out); rintro e w35 ⟨v340, rfl, ho0, hb⟩; have n0_ := aM (Kd.R_elder' (xR HO_3.out) (Kd.R_base ho0) hb); have n1_ := aM (Kd.R_lower (Kd.R_new' ho0 (Kd.R_lt (xR HO_3.out))) (below_size (xB HB.out))); have n2_ := aM (below_step (xB HB.out) hb); clear HO_3; clear HB; have HO_3 := n0_; have HO341 := n1_; have HB := n2_; clear n0_ n1_ n2_; (try clear hb); (try clear hb2); (try clear hk); (try clear hi); (try clear ho0); obtain ⟨Ao37, co37, eo37⟩ := Kd.R_slice HO341.out; subst eo37) | ((with_reducible refine gate_builtin (b := .append) (xs := #[.tmp 58, .tmp 62]) rfl ?_); at_builtin; refine Kd.R_append_rows (Kd.int .u8) (w0 := w) w.heap.size rfl (.tmp 58) (.tmp 62) 22 5 (.int .u8 0) 1 rfl Try.underlying22 info5 rfl (by decide) (by omega) u3 x3_1 t339 _ _ _ (fun k_ => some k_ ≠ (.slice Ao37 t339.length co37 : Value).ownBlock) (fun _ => False) rfl rfl ?aO ?aR (fun _ _ h => h) (fun _ h => h.elim) ?aF ?aB ?aS ?aL ?_; (case aR => exact xC ((Kd.R_reads' HO341.out).2.2)); (case aB => exact (xB HB.out)); (case aF => exact (fun k_ hk => Kd.fresh' (Kd.R_lt (xR HO341.out)) k_ hk)); (case aO => exact (by (with_reducible repeat (first | apply Kd.R_alloc | apply Kd.R_drewN | apply Kd.R_drew)); exact Kd.R_mono HO_3.out (fun _ hk => hk.2))); (case aS => exact (below_size (xB HB.out))); (case aL => have := LMc33.out; omega); intro v343 w36 ho hb hg hat; rw [← Ny342.out] at ho; have n0_ := aM (Kd.R_after (ok := (fun _ => True)) (xR HO341.out) hg hat); have n1_ := aM (hb); have n2_ := aM (ho); clear HO341; clear HB; clear HO_3; have HO341 := n0_; have HB := n1_; have HO344 := n2_; clear n0_ n1_ n2_; clear ho hb hg hat))
       repeat (go_quiet (first | (go_at_call 51; (with_reducible refine (r05_part.calls k1 _ _ y335 0 0 t339 _ ?side1 ?side2 A32.out).mono ?_); (case side1 => exact xC (Kd.C_below HR338.out HB.out)); (case side2 => exact HC338.out); rintro e w35 ⟨v340, rfl, ho0, hb⟩; have n0_ := aM (Kd.R_elder' (xR HO_3.out) (Kd.R_base ho0) hb); have n1_ := aM (Kd.R_lower (Kd.R_new' ho0 (Kd.R_lt (xR HO_3.out))) (below_size (xB HB.out))); have n2_ := aM (below_step (xB HB.out) hb); clear HO_3; clear HB; have HO_3 := n0_; have HO341 := n1_; have HB := n2_; clear n0_ n1_ n2_; (try clear hb); (try clear hb2); (try clear hk); (try clear hi); (try clear ho0); obtain ⟨Ao37, co37, eo37⟩ := Kd.R_slice HO341.out; subst eo37) | ((with_reducible refine gate_builtin (b := .append) (xs := #[.tmp 58, .tmp 62]) rfl ?_); at_builtin; refine Kd.R_append_rows (Kd.int .u8) (w0 := w) w.heap.size rfl (.tmp 58) (.tmp 62) 22 5 (.int .u8 0) 1 rfl Try.underlying22 info5 rfl (by decide) (by omega) u3 x3_1 t339 _ _ _ (fun k_ => some k_ ≠ (.slice Ao37 t339.length co37 : Value).ownBlock) (fun _ => False) rfl rfl ?aO ?aR (fun _ _ h => h) (fun _ h => h.elim) ?aF ?aB ?aS ?aL ?_; (case aR => exact xC ((Kd.R_reads' HO341.out).2.2)); (case aB => exact (xB HB.out)); (case aF => exact (fun k_ hk => Kd.fresh' (Kd.R_lt (xR HO341.out)) k_ hk)); (case aO => exact (by (with_reducible repeat (first | apply Kd.R_alloc | apply Kd.R_drewN | apply Kd.R_drew)); exact Kd.R_mono HO_3.out (fun _ hk => hk.2))); (case aS => exact (below_size (xB HB.out))); (case aL => have := LMc33.out; omega); intro v343 w36 ho hb hg hat; rw [← Ny342.out] at ho; have n0_ := aM (Kd.R_after (ok := (fun _ => True)) (xR HO341.out) hg hat); have n1_ := aM (hb); have n2_ := aM (ho); clear HO341; clear HB; clear HO_3; have HO341 := n0_; have HB := n1_; have HO344 := n2_; clear n0_ n1_ n2_; clear ho hb hg hat)); try go_wp2_with (first | (go_at_call 51; (with_reducible refine (r05_part.calls k1 _ _ y335 0 0 t339 _ ?side1 ?side2 A32.out).mono ?_); (case side1 => exact xC (Kd.C_below HR338.out HB.out)); (case side2 => exact HC338.out); rintro e w35 ⟨v340, rfl, ho0, hb⟩; have n0_ := aM (Kd.R_elder' (xR HO_3.out) (Kd.R_base ho0) hb); have n1_ := aM (Kd.R_lower (Kd.R_new' ho0 (Kd.R_lt (xR HO_3.out))) (below_size (xB HB.out))); have n2_ := aM (below_step (xB HB.out) hb); clear HO_3; clear HB; have HO_3 := n0_; have HO341 := n1_; have HB := n2_; clear n0_ n1_ n2_; (try clear hb); (try clear hb2); (try clear hk); (try clear hi); (try clear ho0); obtain ⟨Ao37, co37, eo37⟩ := Kd.R_slice HO341.out; subst eo37) | ((with_reducible refine gate_builtin (b := .append) (xs := #[.tmp 58, .tmp 62]) rfl ?_); at_builtin; refine Kd.R_append_rows (Kd.int .u8) (w0 := w) w.heap.size rfl (.tmp 58) (.tmp 62) 22 5 (.int .u8 0) 1 rfl Try.underlying22 info5 rfl (by decide) (by omega) u3 x3_1 t339 _ _ _ (fun k_ => some k_ ≠ (.slice Ao37 t339.length co37 : Value).ownBlock) (fun _ => False) rfl rfl ?aO ?aR (fun _ _ h => h) (fun _ h => h.elim) ?aF ?aB ?aS ?aL ?_; (case aR => exact xC ((Kd.R_reads' HO341.out).2.2)); (case aB => exact (xB HB.out)); (case aF => exact (fun k_ hk => Kd.fresh' (Kd.R_lt (xR HO341.out)) k_ hk)); (case aO => exact (by (with_reducible repeat (first | apply Kd.R_alloc | apply Kd.R_drewN | apply Kd.R_drew)); exact Kd.R_mono HO_3.out (fun _ hk => hk.2))); (case aS => exact (below_size (xB HB.out))); (case aL => have := LMc33.out; omega); intro v343 w36 ho hb hg hat; rw [← Ny342.out] at ho; have n0_ := aM (Kd.R_after (ok := (fun _ => True)) (xR HO341.out) hg hat); have n1_ := aM (hb); have n2_ := aM (ho); clear HO341; clear HB; clear HO_3; have HO341 := n0_; have HB := n1_; have HO344 := n2_; clear n0_ n1_ n2_; clear ho hb hg hat)))
       go_ret
       exact ⟨_, by first | rfl | (simp [errW_none, errW_some] <;> rfl) | (simp [*, errW_none, errW_some] <;> rfl), by (with_reducible repeat (first | apply Kd.R_alloc | apply Kd.R_drewN | apply Kd.R_drew)); exact Kd.R_mono HO344.out (fun _ hk => trivial), xB HB.out⟩
      ·
       rw [if_neg c33] at H
       exact absurd H (by simp)
     ·
      rw [if_neg c31] at H
      exact absurd H (by simp)
    ·
     rw [if_neg c30] at H
     exact absurd H (by simp)
end Go.Proofs.Ythaifibhflfpkaa.Q
end
