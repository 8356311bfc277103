/- A part of the claim's own texts: words, walks and plain laws. -/
import Derived.Test.YthaifibhflfpkaaTp2
section
namespace Go.Proofs.Ythaifibhflfpkaa.Q
open Go.RowKit Go.Proofs.YthaifibhflfpkaaW.PrintWords Go.Proofs.YthaifibhflfpkaaW.PrintLast Go.Proofs.YthaifibhflfpkaaW.PrintMore Go.Proofs.YthaifibhflfpkaaX
attribute [local go_sem] max2_int min2_int max_two min_two max_three min_three max_four min_four   -- for this text's walks alone
set_option linter.unusedVariables false
set_option linter.unusedSimpArgs false
mutual
def r06_Pieces.l0 : Nat → List (List Int) → List (S85) → Int → Int → Option ((List (S85)))
 | 0, _, _, _, _ => none
 | k + 1, x0, x3, x4, x5 => if x5 < (x0.length : Int) then (r06_Pieces.j1 k x0 x3 x4 x5 (decide (x4 > 0))) else (r06_Pieces.j1 k x0 x3 x4 x5 false)
def r06_Pieces.j1 : Nat → List (List Int) → List (S85) → Int → Int → Bool → Option ((List (S85)))
 | 0, _, _, _, _, _ => none
 | k + 1, x0, x3, x4, x5, x18 => if x18 = true then (if 0 ≤ x5 then (if x5 < (x0.length : Int) then (if 0 ≤ (mn x4 ((rd_L1 x0 x5).length : Int)) then (if (mn x4 ((rd_L1 x0 x5).length : Int)) ≤ ((rd_L1 x0 x5).length : Int) then ((some ((rd_L1 x0 x5).take ((mn x4 ((rd_L1 x0 x5).length : Int)) : Int).toNat : List Int)).bind fun y370 => (r06_Pieces.l1 k x0 x3 (wrap64 (x4 - ((strOfNums y370).size : Int))) x5 (strOfNums y370) 0)) else (none)) else (none)) else (none)) else (none)) else (some x3)
def r06_Pieces.l1 : Nat → List (List Int) → List (S85) → Int → Int → ByteArray → Int → Option ((List (S85)))
 | 0, _, _, _, _, _, _ => none
 | k + 1, x0, x3, x4, x5, x6, x7 => if x7 < (x6.size : Int) then (r06_Pieces.l2 k x0 x3 x4 x5 x6 x7 2) else (r06_Pieces.l0 k x0 x3 x4 (wrap64 (x5 + 1)))
def r06_Pieces.l2 : Nat → List (List Int) → List (S85) → Int → Int → ByteArray → Int → Int → Option ((List (S85)))
 | 0, _, _, _, _, _, _, _ => none
 | k + 1, x0, x3, x4, x5, x6, x7, x8 => if x8 ≤ 8 then (r06_Pieces.j4 k x0 x3 x4 x5 x6 x7 x8 (decide (x8 ≤ (wrap64 ((x6.size : Int) - x7))))) else (r06_Pieces.j4 k x0 x3 x4 x5 x6 x7 x8 false)
def r06_Pieces.j4 : Nat → List (List Int) → List (S85) → Int → Int → ByteArray → Int → Int → Bool → Option ((List (S85)))
 | 0, _, _, _, _, _, _, _, _ => none
 | k + 1, x0, x3, x4, x5, x6, x7, x8, x53 => if x53 = true then (r06_Pieces.l3 k x0 x3 x4 x5 x6 x7 x8 false 0) else (r06_Pieces.l1 k x0 x3 x4 x5 x6 (wrap64 (x7 + 1)))
def r06_Pieces.l3 : Nat → List (List Int) → List (S85) → Int → Int → ByteArray → Int → Int → Bool → Int → Option ((List (S85)))
 | 0, _, _, _, _, _, _, _, _, _ => none
 | k + 1, x0, x3, x4, x5, x6, x7, x8, x9, x10 => if x10 < (x3.length : Int) then (if 0 ≤ x10 then (if 0 ≤ x7 then (if x7 ≤ (wrap64 (x7 + x8)) then (if (wrap64 (x7 + x8)) ≤ (x6.size : Int) then (if ((rd_T85 x3 x10).f0).toList = (x6.extract (x7 : Int).toNat ((wrap64 (x7 + x8)) : Int).toNat).toList then (r06_Pieces.l2 k x0 (x3.set (x10 : Int).toNat (⟨(rd_T85 x3 x10).f0, wrap64 (((rd_T85 x3 x10).f1) + 1)⟩ : S85)) x4 x5 x6 x7 (wrap64 (x8 + 1))) else (r06_Pieces.l3 k x0 x3 x4 x5 x6 x7 x8 x9 (wrap64 (x10 + 1)))) else (none)) else (none)) else (none)) else (none)) else (if x9 = true then (r06_Pieces.l2 k x0 x3 x4 x5 x6 x7 (wrap64 (x8 + 1))) else (if 0 ≤ x7 then (if x7 ≤ (wrap64 (x7 + x8)) then (if (wrap64 (x7 + x8)) ≤ (x6.size : Int) then (if x3.length < 5864062014805 then (r06_Pieces.l2 k x0 (x3 ++ [(⟨x6.extract (x7 : Int).toNat ((wrap64 (x7 + x8)) : Int).toNat, 1⟩ : S85)]) x4 x5 x6 x7 (wrap64 (x8 + 1))) else (none)) else (none)) else (none)) else (none)))
end
def r06_Pieces.f (k : Nat) (l0 : List (List Int)) : Option ((List (S85))) := r06_Pieces.l0 k l0 ([] : List (S85)) 1024 0
set_option maxHeartbeats 8000000 in
set_option maxRecDepth 100000 in
theorem r06_Pieces.calls (k : Nat) (A0 : Option Addr) (c0 : Nat) (l0 : List (List Int)) (r : List (S85)) (w : World) (hr0 : Kd.C (Kd.slice 5 (Kd.int .u8)) w A0 l0.length l0) (hc0 : l0.length ≤ c0) (h : r06_Pieces.f k l0 = some r) :
  Calls Try.prog 52 #[.slice A0 l0.length c0] w fun e w' => ∃ v0_ : Value, e = .returned (v0_) ∧ Kd.R k85 85 w' w.heap.size (fun _ => True) v0_ r ∧ Below w.heap.size w w' := by
 have hu85 := Try.underlying85
 have HR0 := aM hr0
 have HC0 := aM hc0
 clear hr0 hc0
 have HB := aM (Below.refl w.heap.size w)
 have H : (r06_Pieces.l0 k l0 ([] : List (S85)) 1024 0) = some r := h
 clear h
 have H' := aM H
 clear H
 go_enter Try.func52, Try.ntmps52
 go_wp2
 repeat (go_quiet (fail); try go_wp2)
 go_loopg [3, 4, 5] k (fun kq v3 v4 v5 w' => ∃ (x3_1 : List (S85)) (x4_1 : Int) (x5_1 : Int), v4 = .int .i64 x4_1 ∧ v5 = .int .i64 x5_1 ∧ Aside0 (r06_Pieces.l0 kq l0 x3_1 x4_1 x5_1 = some r) ∧ Aside0 (kq ≤ k) ∧ Aside0 (Kd.R k85 85 w' w.heap.size (fun _ => True) v3 x3_1) ∧ Aside0 (Below w.heap.size w w'))
 case atStart => exact ⟨(([] : List (S85))), (1024), (0), (by first | rfl | (simp; done) | (simp [*]; done)), (by first | rfl | (simp; done) | (simp [*]; done)), H', ⟨Nat.le_refl _⟩, ⟨by first | exact Kd.R_nil _ _ _ _ _ | exact Kd.N_nil _ _ _ _ _ | exact Kd.V_nil _ _ _ _ _ | exact Kd.Q_nil _ _ _ _ _ | exact Kd.S_nil _ _ _ _ _⟩, ⟨xB HB.out⟩⟩
 case round =>
  clear H'
  obtain ⟨x3_1, x4_1, x5_1, rfl, rfl, HA, HK1, HO_3, HB⟩ := hrel
  cases gk with
  | zero => exact absurd HA.out (by simp [r06_Pieces.l0])
  | succ k1 =>
   have H := HA.out
   clear HA
   simp only [r06_Pieces.l0] at H
   have HC2 := aM H
   clear H
   go_upto_region 4 with (fail)
   repeat (go_quiet (fail); go_upto_region 4 with (fail))
   go_cut [18] (fun v18 wc => ∃ (kq : Nat) (x18_1 : Bool), v18 = .bool x18_1 ∧ Aside0 (r06_Pieces.j1 kq l0 x3_1 x4_1 x5_1 x18_1 = some r) ∧ Aside0 (kq ≤ k1) ∧ Aside0 (Kd.R k85 85 wc w.heap.size (fun _ => True) u3 x3_1) ∧ Aside0 (Below w.heap.size w wc))
   case first =>
    have H := HC2.out
    clear HC2
    by_cases c3 : x5_1 < (l0.length : Int)
    ·
     rw [if_pos c3] at H
     have c3b0 : decide (x5_1 < (l0.length : Int)) = true := decide_eq_true c3
     clear c3
     (first | rw [c3b0] | (simp only [i64_w, i32_w]; rw [c3b0]) | skip)
     have H' := aM H
     clear H
     go_wp2
     repeat (go_quiet (fail); try go_wp2)
     go_meet
     case rel => exact ⟨_, (decide (x4_1 > 0)), (by first | rfl | (simp; done) | (simp [*]; done)), H', ⟨by have := HK1.out; first | omega | exact Nat.le_refl _⟩, ⟨by (with_reducible repeat (first | apply Kd.R_alloc | apply Kd.R_drewN | apply Kd.R_drew)); exact HO_3.out⟩, ⟨xB HB.out⟩⟩
    ·
     rw [if_neg c3] at H
     have c3b0 : decide (x5_1 < (l0.length : Int)) = false := decide_eq_false c3
     clear c3
     (first | rw [c3b0] | (simp only [i64_w, i32_w]; rw [c3b0]) | skip)
     have H' := aM H
     clear H
     go_wp2
     repeat (go_quiet (fail); try go_wp2)
     go_meet
     case rel => exact ⟨_, (false), (by first | rfl | (simp; done) | (simp [*]; done)), H', ⟨by have := HK1.out; first | omega | exact Nat.le_refl _⟩, ⟨by (with_reducible repeat (first | apply Kd.R_alloc | apply Kd.R_drewN | apply Kd.R_drew)); exact HO_3.out⟩, ⟨xB HB.out⟩⟩
   case rest =>
    clear HC2
    try clear p2
    try clear c3
    try clear c3b0
    obtain ⟨kq, x18_1, rfl, HA, HJ1, HO_3, HB⟩ := hcut
    cases kq with
    | zero => exact absurd HA.out (by simp [r06_Pieces.j1])
    | succ kj1 =>
     have H := HA.out
     clear HA
     simp only [r06_Pieces.j1] at H
     by_cases c4 : x18_1 = true
     ·
      subst c4
      have H1 : (if 0 ≤ x5_1 then (if x5_1 < (l0.length : Int) then (if 0 ≤ (mn x4_1 ((rd_L1 l0 x5_1).length : Int)) then (if (mn x4_1 ((rd_L1 l0 x5_1).length : Int)) ≤ ((rd_L1 l0 x5_1).length : Int) then ((some ((rd_L1 l0 x5_1).take ((mn x4_1 ((rd_L1 l0 x5_1).length : Int)) : Int).toNat : List Int)).bind fun y370 => (r06_Pieces.l1 kj1 l0 x3_1 (wrap64 (x4_1 - ((strOfNums y370).size : Int))) x5_1 (strOfNums y370) 0)) else (none)) else (none)) else (none)) else (none)) = some r := by rw [if_pos rfl] at H; exact H
      clear H
      have H := H1
      clear H1
      by_cases c5 : 0 ≤ x5_1
      ·
       rw [if_pos c5] at H
       have c5b0 : decide (0 ≤ x5_1) = true := decide_eq_true c5
       clear c5
       by_cases c6 : x5_1 < (l0.length : Int)
       ·
        rw [if_pos c6] at H
        have c6b0 : decide (x5_1 < (l0.length : Int)) = true := decide_eq_true c6
        clear c6
        obtain ⟨ji7, hji7⟩ : ∃ j_ : Int, (mn x4_1 ((rd_L1 l0 x5_1).length : Int)) = j_ := ⟨_, rfl⟩
        replace H : (if 0 ≤ (ji7) then (if (ji7) ≤ ((rd_L1 l0 x5_1).length : Int) then ((some ((rd_L1 l0 x5_1).take ((ji7) : Int).toNat : List Int)).bind fun y370 => (r06_Pieces.l1 kj1 l0 x3_1 (wrap64 (x4_1 - ((strOfNums y370).size : Int))) x5_1 (strOfNums y370) 0)) else (none)) else (none)) = some r := by first | (rw [hji7] at H; exact H) | (simp only [hji7] at H ⊢; exact H)
        have hji7_ : (if ((rd_L1 l0 x5_1).length : Int) < x4_1 then ((rd_L1 l0 x5_1).length : Int) else x4_1) = ji7 := hji7
        by_cases c8 : 0 ≤ (ji7)
        ·
         rw [if_pos c8] at H
         have c8b0 := eq_true c8
         have c8b1 : decide (0 ≤ (ji7)) = true := decide_eq_true c8
         clear c8
         by_cases c9 : (ji7) ≤ ((rd_L1 l0 x5_1).length : Int)
         ·
          rw [if_pos c9] at H
          have c9b0 := eq_true c9
          have c9b1 : decide ((ji7) ≤ ((rd_L1 l0 x5_1).length : Int)) = true := decide_eq_true c9
          clear c9
          obtain ⟨y370, hy370⟩ : ∃ y_ : List Int, y_ = ((rd_L1 l0 x5_1).take ((ji7) : Int).toNat) := ⟨_, rfl⟩
          replace H : (r06_Pieces.l1 kj1 l0 x3_1 (wrap64 (x4_1 - ((strOfNums y370).size : Int))) x5_1 (strOfNums y370) 0) = some r := by first | (rw [hy370]; with_reducible exact H) | (have H2_ := (Option.bind_some _ _).symm.trans H; rw [hy370]; with_reducible exact H2_) | (have H2_ := (Option.bind_some _ _).symm.trans H; with_reducible exact H2_) | with_reducible exact H | (rw [hy370]; exact H) | exact H
          have Ny370 := aM hy370
          clear hy370
          have H' := aM H
          clear H
          have p368 : 0 ≤ (x5_1 : Int) := of_decide_eq_true (by first | (with_reducible assumption) | assumption)
          have q368 : x5_1 < (l0.length : Int) := of_decide_eq_true (by first | (with_reducible assumption) | assumption)
          obtain ⟨ad368, A368_0, c368_0, e368, hx368_0, hl368_0, hi368_0⟩ := at_L1 HR0.out x5_1 p368 q368
          cases e368
          replace hx368_0 := (HB.out.cell (World.block_lt_of_cell? w _ hx368_0)).trans hx368_0
          have HR368_0 := aM hi368_0
          have HC368_0 := aM hl368_0
          clear hi368_0 hl368_0
          replace p368 := eq_true p368
          replace q368 := eq_true q368
          have p369 : 0 ≤ (x5_1 : Int) := of_decide_eq_true (by first | (with_reducible assumption) | assumption)
          have q369 : x5_1 < (l0.length : Int) := of_decide_eq_true (by first | (with_reducible assumption) | assumption)
          obtain ⟨ad369, A369_0, c369_0, e369, hx369_0, hl369_0, hi369_0⟩ := at_L1 HR0.out x5_1 p369 q369
          obtain rfl : ad368 = ad369 := (by injection e369)
          replace hx369_0 := (HB.out.cell (World.block_lt_of_cell? w _ hx369_0)).trans hx369_0
          have HR369_0 := aM hi369_0
          have HC369_0 := aM hl369_0
          clear hi369_0 hl369_0
          replace p369 := eq_true p369
          replace q369 := eq_true q369
          have ea_ := Option.some.inj (hx368_0.symm.trans hx369_0)
          injection ea_ with ea_ en_ ec_
          subst ea_
          subst ec_
          clear en_
          have q10 : ((ji7) : Int) ≤ (((rd_L1 l0 x5_1).length : Int) : Int) := of_decide_eq_true (by first | (with_reducible assumption) | assumption)
          obtain ⟨i010, hi010, _, hsz10, _⟩ := info_parts info5
          have hroom10 : (rd_L1 l0 x5_1).length ≤ c368_0 := HC368_0.out
          have hC10 : Kd.C (Kd.int .u8) _ A368_0 (rd_L1 l0 x5_1).length (rd_L1 l0 x5_1) := HR368_0.out
          have hcut10 := cut_to (P := Try.prog) 22 5 .i64 Try.underlying22 hi010 A368_0 (rd_L1 l0 x5_1).length c368_0 (ji7) (of_decide_eq_true (by first | (with_reducible assumption) | assumption)) q10 hroom10
          have hr10 := Kd.C_take (m := ((ji7) : Int).toNat) hC10 (by omega)
          have hy10 : y370.length = ((ji7) : Int).toNat := (by rw [Ny370.out, List.length_take]; omega)
          rw [← Ny370.out] at hr10
          rw [← hy10] at hcut10
          have HR373 := aM hr10
          have HC373 := aM (show y370.length ≤ c368_0 from by omega)
          clear hr10 hC10 hroom10 hi010 hsz10
          have KY10 := aM hy10
          clear hy10
          replace q10 := eq_true q10
          have hcv11 := Kd.C_string (P := Try.prog) (A := A368_0) (c := c368_0) Try.underlying22 Try.underlying5 Try.underlying9 (Kd.C_below HR373.out HB.out)
          have hcv12 := fun nq_ : Nat => Kd.C_string (P := Try.prog) (A := A368_0) (c := c368_0) Try.underlying22 Try.underlying5 Try.underlying9 (Kd.C_drewN (show Kd.C (Kd.int .u8) _ A368_0 _ _ from (Kd.C_below HR373.out HB.out)) nq_)
          go_wp2
          repeat (go_quiet (fail); try go_wp2)
          go_loopg [3, 7] kj1 (fun kq v3 v7 w' => ∃ (x3_3 : List (S85)) (x7_3 : Int), v7 = .int .i64 x7_3 ∧ Aside0 (r06_Pieces.l1 kq l0 x3_3 (wrap64 (x4_1 - ((strOfNums y370).size : Int))) x5_1 (strOfNums y370) x7_3 = some r) ∧ Aside0 (kq ≤ kj1) ∧ Aside0 (Kd.R k85 85 w' w.heap.size (fun _ => True) v3 x3_3) ∧ Aside0 (Below w.heap.size w w'))
          case atStart => exact ⟨(x3_1), (0), (by first | rfl | (simp; done) | (simp [*]; done)), H', ⟨Nat.le_refl _⟩, ⟨by (with_reducible repeat (first | apply Kd.R_alloc | apply Kd.R_drewN | apply Kd.R_drew)); exact HO_3.out⟩, ⟨xB HB.out⟩⟩
          case round =>
           clear H'
           try clear q1
           try clear hcv1
           try clear p2
           try clear c3
           try clear c3b0
           try clear p3
           try clear q3
           try clear hx3
           try clear c4
           try clear c5
           try clear c5b0
           try clear c6
           try clear c6b0
           try clear p6
           try clear c8
           try clear c8b0
           try clear c8b1
           try clear c9
           try clear c9b0
           try clear c9b1
           try clear q10
           try clear hcv11
           try clear hcv12
           try clear hx368_0
           try clear hx369_0
           try clear p2
           try clear p368
           try clear p369
           try clear q10
           try clear q368
           try clear q369
           obtain ⟨x3_3, x7_3, rfl, HA, HK3, HO_3, HB⟩ := hrel
           cases gk with
           | zero => exact absurd HA.out (by simp [r06_Pieces.l1])
           | succ k3 =>
            have H := HA.out
            clear HA
            simp only [r06_Pieces.l1] at H
            by_cases c13 : x7_3 < ((strOfNums y370).size : Int)
            ·
             rw [if_pos c13] at H
             have c13b0 : decide (x7_3 < ((strOfNums y370).size : Int)) = true := decide_eq_true c13
             clear c13
             have H' := aM H
             clear H
             go_wp2
             repeat (go_quiet (fail); try go_wp2)
             go_loopg [3, 8] k3 (fun kq v3 v8 w' => ∃ (x3_4 : List (S85)) (x8_4 : Int), v8 = .int .i64 x8_4 ∧ Aside0 (r06_Pieces.l2 kq l0 x3_4 (wrap64 (x4_1 - ((strOfNums y370).size : Int))) x5_1 (strOfNums y370) x7_3 x8_4 = some r) ∧ Aside0 (kq ≤ k3) ∧ Aside0 (Kd.R k85 85 w' w.heap.size (fun _ => True) v3 x3_4) ∧ Aside0 (Below w.heap.size w w'))
             case atStart => exact ⟨(x3_3), (2), (by first | rfl | (simp; done) | (simp [*]; done)), H', ⟨Nat.le_refl _⟩, ⟨by (with_reducible repeat (first | apply Kd.R_alloc | apply Kd.R_drewN | apply Kd.R_drew)); exact HO_3.out⟩, ⟨xB HB.out⟩⟩
             case round =>
              clear H'
              try clear c1
              try clear q1
              try clear hcv1
              try clear p2
              try clear c3
              try clear c3b0
              try clear p3
              try clear q3
              try clear hx3
              try clear c4
              try clear c5
              try clear c5b0
              try clear c6
              try clear c6b0
              try clear p6
              try clear c8
              try clear c8b0
              try clear c8b1
              try clear c9
              try clear c9b0
              try clear c9b1
              try clear q10
              try clear hcv11
              try clear hcv12
              try clear c13
              try clear c13b0
              try clear hx368_0
              try clear hx369_0
              try clear p2
              try clear p3
              try clear p368
              try clear p369
              try clear p6
              try clear q1
              try clear q10
              try clear q3
              try clear q368
              try clear q369
              obtain ⟨x3_4, x8_4, rfl, HA, HK4, HO_3, HB⟩ := hrel
              cases gk with
              | zero => exact absurd HA.out (by simp [r06_Pieces.l2])
              | succ k4 =>
               have H := HA.out
               clear HA
               simp only [r06_Pieces.l2] at H
               have HC14 := aM H
               clear H
               go_upto_region 12 with (fail)
               repeat (go_quiet (fail); go_upto_region 12 with (fail))
               go_cut [53] (fun v53 wc => ∃ (kq : Nat) (x53_13 : Bool), v53 = .bool x53_13 ∧ Aside0 (r06_Pieces.j4 kq l0 x3_4 (wrap64 (x4_1 - ((strOfNums y370).size : Int))) x5_1 (strOfNums y370) x7_3 x8_4 x53_13 = some r) ∧ Aside0 (kq ≤ k4) ∧ Aside0 (Kd.R k85 85 wc w.heap.size (fun _ => True) u3 x3_4) ∧ Aside0 (Below w.heap.size w wc))
               case first =>
                have H := HC14.out
                clear HC14
                by_cases c15 : x8_4 ≤ 8
                ·
                 rw [if_pos c15] at H
                 have c15b0 : decide (x8_4 ≤ 8) = true := decide_eq_true c15
                 clear c15
                 (first | rw [c15b0] | (simp only [i64_w, i32_w]; rw [c15b0]) | skip)
                 have H' := aM H
                 clear H
                 go_wp2
                 repeat (go_quiet (fail); try go_wp2)
                 go_meet
                 case rel => exact ⟨_, (decide (x8_4 ≤ (wrap64 (((strOfNums y370).size : Int) - x7_3)))), (by first | rfl | (simp; done) | (simp [*]; done)), H', ⟨by have := HK1.out; have := HJ1.out; have := HK3.out; have := HK4.out; first | omega | exact Nat.le_refl _⟩, ⟨by (with_reducible repeat (first | apply Kd.R_alloc | apply Kd.R_drewN | apply Kd.R_drew)); exact HO_3.out⟩, ⟨xB HB.out⟩⟩
                ·
                 rw [if_neg c15] at H
                 have c15b0 : decide (x8_4 ≤ 8) = false := decide_eq_false c15
                 clear c15
                 (first | rw [c15b0] | (simp only [i64_w, i32_w]; rw [c15b0]) | skip)
                 have H' := aM H
                 clear H
                 go_wp2
                 repeat (go_quiet (fail); try go_wp2)
                 go_meet
                 case rel => exact ⟨_, (false), (by first | rfl | (simp; done) | (simp [*]; done)), H', ⟨by have := HK1.out; have := HJ1.out; have := HK3.out; have := HK4.out; first | omega | exact Nat.le_refl _⟩, ⟨by (with_reducible repeat (first | apply Kd.R_alloc | apply Kd.R_drewN | apply Kd.R_drew)); exact HO_3.out⟩, ⟨xB HB.out⟩⟩
               case rest =>
                clear HC14
                try clear c1
                try clear q1
                try clear hcv1
                try clear p2
                try clear c3
                try clear c3b0
                try clear p3
                try clear q3
                try clear hx3
                try clear c4
                try clear c5
                try clear c5b0
                try clear c6
                try clear c6b0
                try clear p6
                try clear c8
                try clear c8b0
                try clear c8b1
                try clear c9
                try clear c9b0
                try clear c9b1
                try clear q10
                try clear hcv11
                try clear hcv12
                try clear c13
                try clear c13b0
                try clear c15
                try clear c15b0
                try clear hx368_0
                try clear hx369_0
                try clear p2
                try clear p3
                try clear p368
                try clear p369
                try clear p6
                try clear q1
                try clear q10
                try clear q3
                try clear q368
                try clear q369
                obtain ⟨kq, x53_13, rfl, HA, HJ13, HO_3, HB⟩ := hcut
                cases kq with
                | zero => exact absurd HA.out (by simp [r06_Pieces.j4])
                | succ kj13 =>
                 have H := HA.out
                 clear HA
                 simp only [r06_Pieces.j4] at H
                 by_cases c16 : x53_13 = true
                 ·
                  subst c16
                  have H1 : (r06_Pieces.l3 kj13 l0 x3_4 (wrap64 (x4_1 - ((strOfNums y370).size : Int))) x5_1 (strOfNums y370) x7_3 x8_4 false 0) = some r := by rw [if_pos rfl] at H; exact H
                  clear H
                  have H := H1
                  clear H1
                  have H' := aM H
                  clear H
                  go_wp2
                  repeat (go_quiet (fail); try go_wp2)
                  go_loopg [9, 10] kj13 (fun kq v9 v10 w' => ∃ (x3_6 : List (S85)) (x9_6 : Bool) (x10_6 : Int), v9 = .bool x9_6 ∧ v10 = .int .i64 x10_6 ∧ Aside0 (r06_Pieces.l3 kq l0 x3_6 (wrap64 (x4_1 - ((strOfNums y370).size : Int))) x5_1 (strOfNums y370) x7_3 x8_4 x9_6 x10_6 = some r) ∧ Aside0 (kq ≤ kj13) ∧ Aside0 (Kd.R k85 85 w' w.heap.size (fun _ => True) u3 x3_6) ∧ Aside0 (Below w.heap.size w w'))
                  case atStart => exact ⟨(x3_4), (false), (0), (by first | rfl | (simp; done) | (simp [*]; done)), (by first | rfl | (simp; done) | (simp [*]; done)), H', ⟨Nat.le_refl _⟩, ⟨by (with_reducible repeat (first | apply Kd.R_alloc | apply Kd.R_drewN | apply Kd.R_drew)); exact HO_3.out⟩, ⟨xB HB.out⟩⟩
                  case round =>
                   clear H'
                   try clear c1
                   try clear q1
                   try clear hcv1
                   try clear p2
                   try clear c3
                   try clear c3b0
                   try clear p3
                   try clear q3
                   try clear hx3
                   try clear c4
                   try clear c5
                   try clear c5b0
                   try clear c6
                   try clear c6b0
                   try clear p6
                   try clear c8
                   try clear c8b0
                   try clear c8b1
                   try clear c9
                   try clear c9b0
                   try clear c9b1
                   try clear q10
                   try clear hcv11
                   try clear hcv12
                   try clear c13
                   try clear c13b0
                   try clear c15
                   try clear c15b0
                   try clear c16
                   try clear hx368_0
                   try clear hx369_0
                   try clear p2
                   try clear p3
                   try clear p368
                   try clear p369
                   try clear p6
                   try clear q1
                   try clear q10
                   try clear q3
                   try clear q368
                   try clear q369
                   obtain ⟨x3_6, x9_6, x10_6, rfl, rfl, HA, HK6, HO_3, HB⟩ := hrel
                   cases gk with
                   | zero => exact absurd HA.out (by simp [r06_Pieces.l3])
                   | succ k6 =>
                    have H := HA.out
                    clear HA
                    simp only [r06_Pieces.l3] at H
                    by_cases c17 : x10_6 < (x3_6.length : Int)
                    ·
                     rw [if_pos c17] at H
                     have c17b0 : decide (x10_6 < (x3_6.length : Int)) = true := decide_eq_true c17
                     clear c17
                     by_cases c18 : 0 ≤ x10_6
                     ·
                      rw [if_pos c18] at H
                      have c18b0 : decide (0 ≤ x10_6) = true := decide_eq_true c18
                      clear c18
                      by_cases c19 : 0 ≤ x7_3
                      ·
                       rw [if_pos c19] at H
                       have c19b0 := eq_true c19
                       have c19b1 : decide (0 ≤ x7_3) = true := decide_eq_true c19
                       clear c19
                       by_cases c20 : x7_3 ≤ (wrap64 (x7_3 + x8_4))
                       ·
                        rw [if_pos c20] at H
                        have c20b0 := eq_true c20
                        have c20b1 : decide (x7_3 ≤ (wrap64 (x7_3 + x8_4))) = true := decide_eq_true c20
                        by_cases c21 : (wrap64 (x7_3 + x8_4)) ≤ ((strOfNums y370).size : Int)
                        ·
                         rw [if_pos c21] at H
                         have c21b0 := eq_true c21
                         have c21b1 : decide ((wrap64 (x7_3 + x8_4)) ≤ ((strOfNums y370).size : Int)) = true := decide_eq_true c21
                         by_cases c22 : ((rd_T85 x3_6 x10_6).f0).toList = ((strOfNums y370).extract (x7_3 : Int).toNat ((wrap64 (x7_3 + x8_4)) : Int).toNat).toList
                         ·
                          rw [if_pos c22] at H
                          have c22b0 : (((rd_T85 x3_6 x10_6).f0).toList == ((strOfNums y370).extract (x7_3 : Int).toNat ((wrap64 (x7_3 + x8_4)) : Int).toNat).toList) = true := beq_iff_eq.mpr c22
                          have c22b1 : (((rd_T85 x3_6 x10_6).f0).toList != ((strOfNums y370).extract (x7_3 : Int).toNat ((wrap64 (x7_3 + x8_4)) : Int).toNat).toList) = false := bne_eq_false_iff_eq.mpr c22
                          clear c22
                          obtain ⟨y376, hy376⟩ : ∃ y_ : List (S85), y_ = (x3_6.set (x10_6 : Int).toNat (⟨(rd_T85 x3_6 x10_6).f0, wrap64 (((rd_T85 x3_6 x10_6).f1) + 1)⟩ : S85)) := ⟨_, rfl⟩
                          replace H : (r06_Pieces.l2 k6 l0 y376 (wrap64 (x4_1 - ((strOfNums y370).size : Int))) x5_1 (strOfNums y370) x7_3 (wrap64 (x8_4 + 1))) = some r := by first | (rw [hy376]; with_reducible exact H) | (have H2_ := (Option.bind_some _ _).symm.trans H; rw [hy376]; with_reducible exact H2_) | (have H2_ := (Option.bind_some _ _).symm.trans H; with_reducible exact H2_) | with_reducible exact H | (rw [hy376]; exact H) | exact H
                          have Ny376 := aM hy376
                          clear hy376
                          have H' := aM H
                          clear H
                          obtain ⟨Ao24, co24, eo24⟩ := Kd.R_slice HO_3.out
                          subst eo24
                          have p374 : 0 ≤ (x10_6 : Int) := of_decide_eq_true (by first | (with_reducible assumption) | assumption)
                          have q374 : x10_6 < (x3_6.length : Int) := of_decide_eq_true (by first | (with_reducible assumption) | assumption)
                          obtain ⟨ad374, e374, hx374_0, hx374_1⟩ := at_T85 (Kd.R_reads' HO_3.out).2.2 x10_6 p374 q374
                          cases e374
                          replace p374 := eq_true p374
                          replace q374 := eq_true q374
                          have p375 : 0 ≤ (x10_6 : Int) := of_decide_eq_true (by first | (with_reducible assumption) | assumption)
                          have q375 : x10_6 < (x3_6.length : Int) := of_decide_eq_true (by first | (with_reducible assumption) | assumption)
                          obtain ⟨ad375, e375, hx375_0, hx375_1⟩ := at_T85 (Kd.R_reads' HO_3.out).2.2 x10_6 p375 q375
                          obtain rfl : ad374 = ad375 := (by injection e375)
                          replace p375 := eq_true p375
                          replace q375 := eq_true q375
                          have p23 : 0 ≤ (x10_6 : Int) := of_decide_eq_true (by first | (with_reducible assumption) | assumption)
                          have q23 : (x10_6 : Int) < ((x3_6.length : Int) : Int) := of_decide_eq_true (by first | (with_reducible assumption) | assumption)
                          obtain ⟨go23, co23, eo23, gb23, gl23, cl23, HG23⟩ := Kd.R_form HO_3.out (by omega)
                          (first | cases eo23 | (injection eo23 with ea_ en_ ec_; (first | subst ea_ | (injection ea_ with ea_; subst ea_)); subst ec_; clear en_))
                          have GB23 := aM gb23
                          have GG23 := aM HG23
                          clear gb23 gl23 HG23
                          (first | simp only [add_plain] at hx374_0 | skip)
                          (first | simp only [add_plain] at hx374_1 | skip)
                          (first | simp only [add_plain] at hx375_0 | skip)
                          (first | simp only [add_plain] at hx375_1 | skip)
                          obtain ⟨ce23, hcl23, hM23, hcc23, hfr23⟩ := Kd.R_elem HO_3.out z85 (x10_6 : Int) p23 q23
                          obtain rfl := k85_openM hM23
                          have hx23_0 : wr.cell? ⟨go23, (x10_6 : Int).toNat * 2, none⟩ = some (.string ((rd_T85 x3_6 x10_6).f0)) := hcc23 0 _ rfl
                          have hx23_1 : wr.cell? ⟨go23, (x10_6 : Int).toNat * 2 + 1, none⟩ = some (.int .i64 ((rd_T85 x3_6 x10_6).f1)) := hcc23 1 _ rfl
                          have hf23_0 : wr.frozen? ⟨go23, (x10_6 : Int).toNat * 2, none⟩ = false := hfr23 0
                          have hf23_1 : wr.frozen? ⟨go23, (x10_6 : Int).toNat * 2 + 1, none⟩ = false := hfr23 1
                          clear hcl23 hcc23 hfr23 hM23
                          replace p23 := eq_true p23
                          replace q23 := eq_true q23
                          have HX25 := aM (show Kd.R k85 85 wr w.heap.size (fun _ => True) (.slice (some ⟨go23, 0, none⟩) x3_6.length co24) x3_6 from (xR HO_3.out))
                          obtain ⟨ce25, hcl25, hM25, hcc25, hfr25⟩ := Kd.R_elem HX25.out z85 (x10_6 : Int) (of_decide_eq_true (by first | (with_reducible assumption) | assumption)) (by have h_ : (x10_6 : Int) < ((x3_6.length : Int) : Int) := of_decide_eq_true (by first | (with_reducible assumption) | assumption); first | exact h_ | (have e_ := (Kd.R_reads' HO_3.out).1; omega) | simpa using h_)
                          obtain rfl := k85_openM hM25
                          have HP25 := Kd.R_seg HX25.out (x10_6 : Int) (of_decide_eq_true (by first | (with_reducible assumption) | assumption)) (by have h_ : (x10_6 : Int) < ((x3_6.length : Int) : Int) := of_decide_eq_true (by first | (with_reducible assumption) | assumption); first | exact h_ | (have e_ := (Kd.R_reads' HO_3.out).1; omega) | simpa using h_) (seg := [.int .i64 (wrap64 (((rd_T85 x3_6 x10_6).f1) + 1))]) (j := 1) hcl25 hcc25 (show 2 ≤ 2 from by decide) (x' := (⟨(rd_T85 x3_6 x10_6).f0, wrap64 (((rd_T85 x3_6 x10_6).f1) + 1)⟩ : S85)) (k85_mkM _ _ _ (⟨(rd_T85 x3_6 x10_6).f0, wrap64 (((rd_T85 x3_6 x10_6).f1) + 1)⟩ : S85) ) (fun _ hk => hk)
                          have hx25_1 := hcc25 1 _ rfl
                          (try simp only [show (k85).sz = 2 from rfl, Nat.mul_one, Nat.add_zero] at hx25_1)
                          have hf25_1 := hfr25 1
                          (try simp only [show (k85).sz = 2 from rfl, Nat.mul_one, Nat.add_zero] at hf25_1)
                          clear hcl25 hcc25 hfr25 hM25
                          go_wp2_with (first | ((with_reducible refine gate_store (t := 3) (p := 83) rfl ?_); (try (rw [drewN_self wr]; generalize hq_ : World.drewN wr _ = wr; have n0_ := aM (Kd.R_at hq_ HO_3.out); have n1_ := aM (below_at hq_ HB.out); clear hq_ HO_3 HB; have HO_3 := n0_; have HB := n1_; clear n0_ n1_; (try (have HX25 := aM (show Kd.R k85 85 wr w.heap.size (fun _ => True) (.slice (some ⟨go23, 0, none⟩) x3_6.length co24) x3_6 from (xR HO_3.out)))); (try (obtain ⟨ce25, hcl25, hM25, hcc25, hfr25⟩ := Kd.R_elem HX25.out z85 (x10_6 : Int) (of_decide_eq_true (by first | (with_reducible assumption) | assumption)) (by have h_ : (x10_6 : Int) < ((x3_6.length : Int) : Int) := of_decide_eq_true (by first | (with_reducible assumption) | assumption); first | exact h_ | (have e_ := (Kd.R_reads' HO_3.out).1; omega) | simpa using h_))); (try (obtain rfl := k85_openM hM25)); (try (have HP25 := Kd.R_seg HX25.out (x10_6 : Int) (of_decide_eq_true (by first | (with_reducible assumption) | assumption)) (by have h_ : (x10_6 : Int) < ((x3_6.length : Int) : Int) := of_decide_eq_true (by first | (with_reducible assumption) | assumption); first | exact h_ | (have e_ := (Kd.R_reads' HO_3.out).1; omega) | simpa using h_) (seg := [.int .i64 (wrap64 (((rd_T85 x3_6 x10_6).f1) + 1))]) (j := 1) hcl25 hcc25 (show 2 ≤ 2 from by decide) (x' := (⟨(rd_T85 x3_6 x10_6).f0, wrap64 (((rd_T85 x3_6 x10_6).f1) + 1)⟩ : S85)) (k85_mkM _ _ _ (⟨(rd_T85 x3_6 x10_6).f0, wrap64 (((rd_T85 x3_6 x10_6).f1) + 1)⟩ : S85) ) (fun _ hk => hk))); (try (have hx25_1 := hcc25 1 _ rfl)); (try (try simp only [show (k85).sz = 2 from rfl, Nat.mul_one, Nat.add_zero] at hx25_1)); (try (have hf25_1 := hfr25 1)); (try (try simp only [show (k85).sz = 2 from rfl, Nat.mul_one, Nat.add_zero] at hf25_1)); (try (clear hcl25 hcc25 hfr25 hM25)))); refine store_event (t := 3) (p := 83) (v := ?vo_w26) (w1 := (wr.setCell ⟨go23, (x10_6 : Int).toNat * 2 + 1, none⟩ (.int .i64 (wrap64 (((rd_T85 x3_6 x10_6).f1) + 1))))) ?hg ?ho ?hn ?hr ?_; (case ho => rfl); (case hg => rfl); (case hn => rfl); (case hr => first | (go_simp; done) | (go_simp; rfl)); intro w26 hw; have hg : wr.grownBy w26 (some go23) := (by rw [hw]; exact HP25.2); have hp_ : Kd.R k85 85 w26 w.heap.size (fun _ => True) (.slice (some ⟨go23, 0, none⟩) x3_6.length co24) y376 := (by rw [hw, Ny376.out]; exact HP25.1); clear HP25; have n0_ := aM (hp_); have n1_ := aM ((by rw [hw]; exact below_set (HB.out) GB23.out : Below w.heap.size w w26)); clear HO_3; clear HB; have HO_3 := n0_; have HB := n1_; clear n0_ n1_; clear hg hw hp_))
                          repeat (go_quiet (first | ((with_reducible refine gate_store (t := 3) (p := 83) rfl ?_); (try (rw [drewN_self wr]; generalize hq_ : World.drewN wr _ = wr; have n0_ := aM (Kd.R_at hq_ HO_3.out); have n1_ := aM (below_at hq_ HB.out); clear hq_ HO_3 HB; have HO_3 := n0_; have HB := n1_; clear n0_ n1_; (try (have HX25 := aM (show Kd.R k85 85 wr w.heap.size (fun _ => True) (.slice (some ⟨go23, 0, none⟩) x3_6.length co24) x3_6 from (xR HO_3.out)))); (try (obtain ⟨ce25, hcl25, hM25, hcc25, hfr25⟩ := Kd.R_elem HX25.out z85 (x10_6 : Int) (of_decide_eq_true (by first | (with_reducible assumption) | assumption)) (by have h_ : (x10_6 : Int) < ((x3_6.length : Int) : Int) := of_decide_eq_true (by first | (with_reducible assumption) | assumption); first | exact h_ | (have e_ := (Kd.R_reads' HO_3.out).1; omega) | simpa using h_))); (try (obtain rfl := k85_openM hM25)); (try (have HP25 := Kd.R_seg HX25.out (x10_6 : Int) (of_decide_eq_true (by first | (with_reducible assumption) | assumption)) (by have h_ : (x10_6 : Int) < ((x3_6.length : Int) : Int) := of_decide_eq_true (by first | (with_reducible assumption) | assumption); first | exact h_ | (have e_ := (Kd.R_reads' HO_3.out).1; omega) | simpa using h_) (seg := [.int .i64 (wrap64 (((rd_T85 x3_6 x10_6).f1) + 1))]) (j := 1) hcl25 hcc25 (show 2 ≤ 2 from by decide) (x' := (⟨(rd_T85 x3_6 x10_6).f0, wrap64 (((rd_T85 x3_6 x10_6).f1) + 1)⟩ : S85)) (k85_mkM _ _ _ (⟨(rd_T85 x3_6 x10_6).f0, wrap64 (((rd_T85 x3_6 x10_6).f1) + 1)⟩ : S85) ) (fun _ hk => hk))); (try (have hx25_1 := hcc25 1 _ rfl)); (try (try simp only [show (k85).sz = 2 from rfl, Nat.mul_one, Nat.add_zero] at hx25_1)); (try (have hf25_1 := hfr25 1)); (try (try simp only [show (k85).sz = 2 from rfl, Nat.mul_one, Nat.add_zero] at hf25_1)); (try (clear hcl25 hcc25 hfr25 hM25)))); refine store_event (t := 3) (p := 83) (v := ?vo_w26) (w1 := (wr.setCell ⟨go23, (x10_6 : Int).toNat * 2 + 1, none⟩ (.int .i64 (wrap64 (((rd_T85 x3_6 x10_6).f1) + 1))))) ?hg ?ho ?hn ?hr ?_; (case ho => rfl); (case hg => rfl); (case hn => rfl); (case hr => first | (go_simp; done) | (go_simp; rfl)); intro w26 hw; have hg : wr.grownBy w26 (some go23) := (by rw [hw]; exact HP25.2); have hp_ : Kd.R k85 85 w26 w.heap.size (fun _ => True) (.slice (some ⟨go23, 0, none⟩) x3_6.length co24) y376 := (by rw [hw, Ny376.out]; exact HP25.1); clear HP25; have n0_ := aM (hp_); have n1_ := aM ((by rw [hw]; exact below_set (HB.out) GB23.out : Below w.heap.size w w26)); clear HO_3; clear HB; have HO_3 := n0_; have HB := n1_; clear n0_ n1_; clear hg hw hp_)); try go_wp2_with (first | ((with_reducible refine gate_store (t := 3) (p := 83) rfl ?_); (try (rw [drewN_self wr]; generalize hq_ : World.drewN wr _ = wr; have n0_ := aM (Kd.R_at hq_ HO_3.out); have n1_ := aM (below_at hq_ HB.out); clear hq_ HO_3 HB; have HO_3 := n0_; have HB := n1_; clear n0_ n1_; (try (have HX25 := aM (show Kd.R k85 85 wr w.heap.size (fun _ => True) (.slice (some ⟨go23, 0, none⟩) x3_6.length co24) x3_6 from (xR HO_3.out)))); (try (obtain ⟨ce25, hcl25, hM25, hcc25, hfr25⟩ := Kd.R_elem HX25.out z85 (x10_6 : Int) (of_decide_eq_true (by first | (with_reducible assumption) | assumption)) (by have h_ : (x10_6 : Int) < ((x3_6.length : Int) : Int) := of_decide_eq_true (by first | (with_reducible assumption) | assumption); first | exact h_ | (have e_ := (Kd.R_reads' HO_3.out).1; omega) | simpa using h_))); (try (obtain rfl := k85_openM hM25)); (try (have HP25 := Kd.R_seg HX25.out (x10_6 : Int) (of_decide_eq_true (by first | (with_reducible assumption) | assumption)) (by have h_ : (x10_6 : Int) < ((x3_6.length : Int) : Int) := of_decide_eq_true (by first | (with_reducible assumption) | assumption); first | exact h_ | (have e_ := (Kd.R_reads' HO_3.out).1; omega) | simpa using h_) (seg := [.int .i64 (wrap64 (((rd_T85 x3_6 x10_6).f1) + 1))]) (j := 1) hcl25 hcc25 (show 2 ≤ 2 from by decide) (x' := (⟨(rd_T85 x3_6 x10_6).f0, wrap64 (((rd_T85 x3_6 x10_6).f1) + 1)⟩ : S85)) (k85_mkM _ _ _ (⟨(rd_T85 x3_6 x10_6).f0, wrap64 (((rd_T85 x3_6 x10_6).f1) + 1)⟩ : S85) ) (fun _ hk => hk))); (try (have hx25_1 := hcc25 1 _ rfl)); (try (try simp only [show (k85).sz = 2 from rfl, Nat.mul_one, Nat.add_zero] at hx25_1)); (try (have hf25_1 := hfr25 1)); (try (try simp only [show (k85).sz = 2 from rfl, Nat.mul_one, Nat.add_zero] at hf25_1)); (try (clear hcl25 hcc25 hfr25 hM25)))); refine store_event (t := 3) (p := 83) (v := ?vo_w26) (w1 := (wr.setCell ⟨go23, (x10_6 : Int).toNat * 2 + 1, none⟩ (.int .i64 (wrap64 (((rd_T85 x3_6 x10_6).f1) + 1))))) ?hg ?ho ?hn ?hr ?_; (case ho => rfl); (case hg => rfl); (case hn => rfl); (case hr => first | (go_simp; done) | (go_simp; rfl)); intro w26 hw; have hg : wr.grownBy w26 (some go23) := (by rw [hw]; exact HP25.2); have hp_ : Kd.R k85 85 w26 w.heap.size (fun _ => True) (.slice (some ⟨go23, 0, none⟩) x3_6.length co24) y376 := (by rw [hw, Ny376.out]; exact HP25.1); clear HP25; have n0_ := aM (hp_); have n1_ := aM ((by rw [hw]; exact below_set (HB.out) GB23.out : Below w.heap.size w w26)); clear HO_3; clear HB; have HO_3 := n0_; have HB := n1_; clear n0_ n1_; clear hg hw hp_)))
                          go_roundg k6
                          case measure => have := HK1.out; have := HJ1.out; have := HK3.out; have := HK4.out; have := HJ13.out; have := HK6.out; omega
                          case rel => exact ⟨(y376), (wrap64 (x8_4 + 1)), (by first | rfl | (simp; done) | (simp [*]; done)), H', ⟨by have := HK1.out; have := HJ1.out; have := HK3.out; have := HK4.out; have := HJ13.out; have := HK6.out; omega⟩, ⟨by (with_reducible repeat (first | apply Kd.R_alloc | apply Kd.R_drewN | apply Kd.R_drew)); exact HO_3.out⟩, ⟨xB HB.out⟩⟩
                         ·
                          rw [if_neg c22] at H
                          have c22b0 : (((rd_T85 x3_6 x10_6).f0).toList == ((strOfNums y370).extract (x7_3 : Int).toNat ((wrap64 (x7_3 + x8_4)) : Int).toNat).toList) = false := beq_eq_false_iff_ne.mpr c22
                          have c22b1 : (((rd_T85 x3_6 x10_6).f0).toList != ((strOfNums y370).extract (x7_3 : Int).toNat ((wrap64 (x7_3 + x8_4)) : Int).toNat).toList) = true := bne_iff_ne.mpr c22
                          have H' := aM H
                          clear H
                          obtain ⟨Ao27, co27, eo27⟩ := Kd.R_slice HO_3.out
                          subst eo27
                          have p374 : 0 ≤ (x10_6 : Int) := of_decide_eq_true (by first | (with_reducible assumption) | assumption)
                          have q374 : x10_6 < (x3_6.length : Int) := of_decide_eq_true (by first | (with_reducible assumption) | assumption)
                          obtain ⟨ad374, e374, hx374_0, hx374_1⟩ := at_T85 (Kd.R_reads' HO_3.out).2.2 x10_6 p374 q374
                          cases e374
                          replace p374 := eq_true p374
                          replace q374 := eq_true q374
                          go_wp2
                          repeat (go_quiet (fail); try go_wp2)
                          go_roundg k6
                          case measure => have := HK1.out; have := HJ1.out; have := HK3.out; have := HK4.out; have := HJ13.out; have := HK6.out; omega
                          case rel => exact ⟨(x3_6), (x9_6), (wrap64 (x10_6 + 1)), (by first | rfl | (simp; done) | (simp [*]; done)), (by first | rfl | (simp; done) | (simp [*]; done)), H', ⟨by have := HK1.out; have := HJ1.out; have := HK3.out; have := HK4.out; have := HJ13.out; have := HK6.out; omega⟩, ⟨by (with_reducible repeat (first | apply Kd.R_alloc | apply Kd.R_drewN | apply Kd.R_drew)); exact HO_3.out⟩, ⟨xB HB.out⟩⟩
                        ·
                         rw [if_neg c21] at H
                         exact absurd H (by simp)
                       ·
                        rw [if_neg c20] at H
                        exact absurd H (by simp)
                      ·
                       rw [if_neg c19] at H
                       exact absurd H (by simp)
                     ·
                      rw [if_neg c18] at H
                      exact absurd H (by simp)
                    ·
                     rw [if_neg c17] at H
                     have c17b0 : decide (x10_6 < (x3_6.length : Int)) = false := decide_eq_false c17
                     clear c17
                     by_cases c28 : x9_6 = true
                     ·
                      subst c28
                      have H1 : (r06_Pieces.l2 k6 l0 x3_6 (wrap64 (x4_1 - ((strOfNums y370).size : Int))) x5_1 (strOfNums y370) x7_3 (wrap64 (x8_4 + 1))) = some r := by rw [if_pos rfl] at H; exact H
                      clear H
                      have H := H1
                      clear H1
                      have H' := aM H
                      clear H
                      obtain ⟨Ao29, co29, eo29⟩ := Kd.R_slice HO_3.out
                      subst eo29
                      go_wp2
                      repeat (go_quiet (fail); try go_wp2)
                      go_roundg k6
                      case measure => have := HK1.out; have := HJ1.out; have := HK3.out; have := HK4.out; have := HJ13.out; have := HK6.out; omega
                      case rel => exact ⟨(x3_6), (wrap64 (x8_4 + 1)), (by first | rfl | (simp; done) | (simp [*]; done)), H', ⟨by have := HK1.out; have := HJ1.out; have := HK3.out; have := HK4.out; have := HJ13.out; have := HK6.out; omega⟩, ⟨by (with_reducible repeat (first | apply Kd.R_alloc | apply Kd.R_drewN | apply Kd.R_drew)); exact HO_3.out⟩, ⟨xB HB.out⟩⟩
                     ·
                      replace c28 := Bool.eq_false_iff.mpr c28
                      subst c28
                      have H1 : (if 0 ≤ x7_3 then (if x7_3 ≤ (wrap64 (x7_3 + x8_4)) then (if (wrap64 (x7_3 + x8_4)) ≤ ((strOfNums y370).size : Int) then (if x3_6.length < 5864062014805 then (r06_Pieces.l2 k6 l0 (x3_6 ++ [(⟨(strOfNums y370).extract (x7_3 : Int).toNat ((wrap64 (x7_3 + x8_4)) : Int).toNat, 1⟩ : S85)]) (wrap64 (x4_1 - ((strOfNums y370).size : Int))) x5_1 (strOfNums y370) x7_3 (wrap64 (x8_4 + 1))) else (none)) else (none)) else (none)) else (none)) = some r := by rw [if_neg (show ¬ (false = true) by decide)] at H; exact H
                      clear H
                      have H := H1
                      clear H1
                      by_cases c30 : 0 ≤ x7_3
                      ·
                       rw [if_pos c30] at H
                       have c30b0 := eq_true c30
                       have c30b1 : decide (0 ≤ x7_3) = true := decide_eq_true c30
                       clear c30
                       by_cases c31 : x7_3 ≤ (wrap64 (x7_3 + x8_4))
                       ·
                        rw [if_pos c31] at H
                        have c31b0 := eq_true c31
                        have c31b1 : decide (x7_3 ≤ (wrap64 (x7_3 + x8_4))) = true := decide_eq_true c31
                        by_cases c32 : (wrap64 (x7_3 + x8_4)) ≤ ((strOfNums y370).size : Int)
                        ·
                         rw [if_pos c32] at H
                         have c32b0 := eq_true c32
                         have c32b1 : decide ((wrap64 (x7_3 + x8_4)) ≤ ((strOfNums y370).size : Int)) = true := decide_eq_true c32
                         by_cases c33 : x3_6.length < 5864062014805
                         ·
                          rw [if_pos c33] at H
                          have LMc33 := aM c33
                          clear c33
                          obtain ⟨y377, hy377⟩ : ∃ y_ : List (S85), y_ = (x3_6 ++ [(⟨(strOfNums y370).extract (x7_3 : Int).toNat ((wrap64 (x7_3 + x8_4)) : Int).toNat, 1⟩ : S85)]) := ⟨_, rfl⟩
                          replace H : (r06_Pieces.l2 k6 l0 y377 (wrap64 (x4_1 - ((strOfNums y370).size : Int))) x5_1 (strOfNums y370) x7_3 (wrap64 (x8_4 + 1))) = some r := by first | (rw [hy377]; with_reducible exact H) | (have H2_ := (Option.bind_some _ _).symm.trans H; rw [hy377]; with_reducible exact H2_) | (have H2_ := (Option.bind_some _ _).symm.trans H; with_reducible exact H2_) | with_reducible exact H | (rw [hy377]; exact H) | exact H
                          have Ny377 := aM hy377
                          clear hy377
                          have H' := aM H
                          clear H
                          obtain ⟨Ao34, co34, eo34⟩ := Kd.R_slice HO_3.out
                          subst eo34
                          go_wp2_with (first | ((with_reducible refine gate_builtin (b := .append) (xs := #[.tmp 86, .tmp 94]) rfl ?_); (try (refine gate_guard (by rfl) ?_; dsimp only)); at_builtin; refine Kd.R_append k85 (w0 := w) w.heap.size rfl (.tmp 86) (.tmp 94) 82 85 (.agg #[(.string ⟨#[]⟩), (.int .i64 0)]) 24 rfl Try.underlying82 info85 rfl (by decide) (by omega) (.slice Ao34 x3_6.length co34) x3_6 (⟨(strOfNums y370).extract (x7_3 : Int).toNat ((wrap64 (x7_3 + x8_4)) : Int).toNat, 1⟩ : S85) [.string ((strOfNums y370).extract (x7_3 : Int).toNat ((wrap64 (x7_3 + x8_4)) : Int).toNat), .int .i64 1] (fun _ => True) (fun _ => False) rfl rfl ?aP (fun _ hk => hk.elim) ?aF ?aO ?aB ?aS ?aL ?_; (case aP => exact k85_mkM _ _ _ (⟨(strOfNums y370).extract (x7_3 : Int).toNat ((wrap64 (x7_3 + x8_4)) : Int).toNat, 1⟩ : S85)); (case aB => exact (xB HB.out)); (case aF => exact (fun _ _ => trivial)); (case aO => exact (xR HO_3.out)); (case aS => exact (below_size (xB HB.out))); (case aL => have := LMc33.out; omega); intro v378 w35 ho hb hg hat; rw [← Ny377.out] at ho; have n0_ := aM (hb); have n1_ := aM (ho); clear HB; clear HO_3; have HB := n0_; have HO379 := n1_; clear n0_ n1_; clear ho hb hg hat))
                          repeat (go_quiet (first | ((with_reducible refine gate_builtin (b := .append) (xs := #[.tmp 86, .tmp 94]) rfl ?_); (try (refine gate_guard (by rfl) ?_; dsimp only)); at_builtin; refine Kd.R_append k85 (w0 := w) w.heap.size rfl (.tmp 86) (.tmp 94) 82 85 (.agg #[(.string ⟨#[]⟩), (.int .i64 0)]) 24 rfl Try.underlying82 info85 rfl (by decide) (by omega) (.slice Ao34 x3_6.length co34) x3_6 (⟨(strOfNums y370).extract (x7_3 : Int).toNat ((wrap64 (x7_3 + x8_4)) : Int).toNat, 1⟩ : S85) [.string ((strOfNums y370).extract (x7_3 : Int).toNat ((wrap64 (x7_3 + x8_4)) : Int).toNat), .int .i64 1] (fun _ => True) (fun _ => False) rfl rfl ?aP (fun _ hk => hk.elim) ?aF ?aO ?aB ?aS ?aL ?_; (case aP => exact k85_mkM _ _ _ (⟨(strOfNums y370).extract (x7_3 : Int).toNat ((wrap64 (x7_3 + x8_4)) : Int).toNat, 1⟩ : S85)); (case aB => exact (xB HB.out)); (case aF => exact (fun _ _ => trivial)); (case aO => exact (xR HO_3.out)); (case aS => exact (below_size (xB HB.out))); (case aL => have := LMc33.out; omega); intro v378 w35 ho hb hg hat; rw [← Ny377.out] at ho; have n0_ := aM (hb); have n1_ := aM (ho); clear HB; clear HO_3; have HB := n0_; have HO379 := n1_; clear n0_ n1_; clear ho hb hg hat)); try go_wp2_with (first | ((with_reducible refine gate_builtin (b := .append) (xs := #[.tmp 86, .tmp 94]) rfl ?_); (try (refine gate_guard (by rfl) ?_; dsimp only)); at_builtin; refine Kd.R_append k85 (w0 := w) w.heap.size rfl (.tmp 86) (.tmp 94) 82 85 (.agg #[(.string ⟨#[]⟩), (.int .i64 0)]) 24 rfl Try.underlying82 info85 rfl (by decide) (by omega) (.slice Ao34 x3_6.length co34) x3_6 (⟨(strOfNums y370).extract (x7_3 : Int).toNat ((wrap64 (x7_3 + x8_4)) : Int).toNat, 1⟩ : S85) [.string ((strOfNums y370).extract (x7_3 : Int).toNat ((wrap64 (x7_3 + x8_4)) : Int).toNat), .int .i64 1] (fun _ => True) (fun _ => False) rfl rfl ?aP (fun _ hk => hk.elim) ?aF ?aO ?aB ?aS ?aL ?_; (case aP => exact k85_mkM _ _ _ (⟨(strOfNums y370).extract (x7_3 : Int).toNat ((wrap64 (x7_3 + x8_4)) : Int).toNat, 1⟩ : S85)); (case aB => exact (xB HB.out)); (case aF => exact (fun _ _ => trivial)); (case aO => exact (xR HO_3.out)); (case aS => exact (below_size (xB HB.out))); (case aL => have := LMc33.out; omega); intro v378 w35 ho hb hg hat; rw [← Ny377.out] at ho; have n0_ := aM (hb); have n1_ := aM (ho); clear HB; clear HO_3; have HB := n0_; have HO379 := n1_; clear n0_ n1_; clear ho hb hg hat)))
                          go_roundg k6
                          case measure => have := HK1.out; have := HJ1.out; have := HK3.out; have := HK4.out; have := HJ13.out; have := HK6.out; omega
                          case rel => exact ⟨(y377), (wrap64 (x8_4 + 1)), (by first | rfl | (simp; done) | (simp [*]; done)), H', ⟨by have := HK1.out; have := HJ1.out; have := HK3.out; have := HK4.out; have := HJ13.out; have := HK6.out; omega⟩, ⟨by (with_reducible repeat (first | apply Kd.R_alloc | apply Kd.R_drewN | apply Kd.R_drew)); exact HO379.out⟩, ⟨xB HB.out⟩⟩
                         ·
                          rw [if_neg c33] at H
                          exact absurd H (by simp)
                        ·
                         rw [if_neg c32] at H
                         exact absurd H (by simp)
                       ·
                        rw [if_neg c31] at H
                        exact absurd H (by simp)
                      ·
                       rw [if_neg c30] at H
                       exact absurd H (by simp)
                 ·
                  replace c16 := Bool.eq_false_iff.mpr c16
                  subst c16
                  have H1 : (r06_Pieces.l1 kj13 l0 x3_4 (wrap64 (x4_1 - ((strOfNums y370).size : Int))) x5_1 (strOfNums y370) (wrap64 (x7_3 + 1))) = some r := by rw [if_neg (show ¬ (false = true) by decide)] at H; exact H
                  clear H
                  have H := H1
                  clear H1
                  have H' := aM H
                  clear H
                  go_wp2
                  repeat (go_quiet (fail); try go_wp2)
                  go_roundg kj13
                  case measure => have := HK1.out; have := HJ1.out; have := HK3.out; have := HK4.out; have := HJ13.out; omega
                  case rel => exact ⟨(x3_4), (wrap64 (x7_3 + 1)), (by first | rfl | (simp; done) | (simp [*]; done)), H', ⟨by have := HK1.out; have := HJ1.out; have := HK3.out; have := HK4.out; have := HJ13.out; omega⟩, ⟨by (with_reducible repeat (first | apply Kd.R_alloc | apply Kd.R_drewN | apply Kd.R_drew)); exact HO_3.out⟩, ⟨xB HB.out⟩⟩
            ·
             rw [if_neg c13] at H
             have c13b0 : decide (x7_3 < ((strOfNums y370).size : Int)) = false := decide_eq_false c13
             clear c13
             have H' := aM H
             clear H
             go_wp2
             repeat (go_quiet (fail); try go_wp2)
             go_roundg k3
             case measure => have := HK1.out; have := HJ1.out; have := HK3.out; omega
             case rel => exact ⟨(x3_3), ((wrap64 (x4_1 - ((strOfNums y370).size : Int)))), (wrap64 (x5_1 + 1)), (by first | rfl | (simp; done) | (simp [*]; done)), (by first | rfl | (simp; done) | (simp [*]; done)), H', ⟨by have := HK1.out; have := HJ1.out; have := HK3.out; omega⟩, ⟨by (with_reducible repeat (first | apply Kd.R_alloc | apply Kd.R_drewN | apply Kd.R_drew)); exact HO_3.out⟩, ⟨xB HB.out⟩⟩
         ·
          rw [if_neg c9] at H
          exact absurd H (by simp)
        ·
         rw [if_neg c8] at H
         exact absurd H (by simp)
       ·
        rw [if_neg c6] at H
        exact absurd H (by simp)
      ·
       rw [if_neg c5] at H
       exact absurd H (by simp)
     ·
      replace c4 := Bool.eq_false_iff.mpr c4
      subst c4
      have H1 : (some x3_1) = some r := by rw [if_neg (show ¬ (false = true) by decide)] at H; exact H
      clear H
      have H := H1
      clear H1
      obtain rfl := Option.some.inj H
      go_wp2
      repeat (go_quiet (fail); try go_wp2)
      go_ret
      exact ⟨_, by first | rfl | (simp [errW_none, errW_some] <;> rfl) | (simp [*, errW_none, errW_some] <;> rfl), by (with_reducible repeat (first | apply Kd.R_alloc | apply Kd.R_drewN | apply Kd.R_drew)); exact HO_3.out, xB HB.out⟩
def r06_worth.f (a0_0 : ByteArray) (a0_1 : Int) : Option (Int) := some (wrap64 ((wrap64 ((a0_0.size : Int) - 1)) * a0_1))
set_option maxHeartbeats 8000000 in
set_option maxRecDepth 100000 in
theorem r06_worth.calls (a0_0 : ByteArray) (a0_1 : Int) (r : Int) (w : World) (h : r06_worth.f a0_0 a0_1 = some r) :
  Calls Try.prog 53 #[.agg #[.string a0_0, .int .i64 a0_1]] w fun e w' => e = .returned (.int .i64 r) ∧ Below w.heap.size w w' := by
 have hu85 := Try.underlying85
 have HB := aM (Below.refl w.heap.size w)
 have H : (some (wrap64 ((wrap64 ((a0_0.size : Int) - 1)) * a0_1))) = some r := h
 clear h
 obtain rfl := Option.some.inj H
 go_enter Try.func53, Try.ntmps53
 go_wp2_with (first | ((with_reducible refine gate_dst (N := 1) rfl ?_); refine box_event ?hg (N := 1) ?hd (cs := #[.string a0_0, .int .i64 a0_1]) (t := 85) ?hr ?_; (case hd => rfl); (case hg => rfl); (case hr => first | (go_simp; done) | (go_simp; rfl)); intro gb380 hg w2 hbox hb; have n0_ := aM (below_step (xB HB.out) hb); have n1_ := aM (hbox); have n2_ := aM ((by rw [hg]; exact (below_size (xB HB.out)) : w.heap.size ≤ gb380)); have n3_ := aM ((by rw [hg]; exact (below_size (xB HB.out)) : w.heap.size ≤ gb380)); clear HB; have HB := n0_; have BK380 := n1_; have GW380 := n2_; have GE380 := n3_; clear n0_ n1_ n2_ n3_; clear hb hbox hg; have hcz3_0 : w2.cell? ⟨gb380, 0, none⟩ = some (.string a0_0) := (blk_cell BK380.out 0).trans rfl; have hcz3_1 : w2.cell? ⟨gb380, 1, none⟩ = some (.int .i64 a0_1) := (blk_cell BK380.out 1).trans rfl; have hfz3_0 := blk_frozen BK380.out 0; have hfz3_1 := blk_frozen BK380.out 1))
 go_ret
 exact ⟨by first | rfl | (simp [errW_none, errW_some] <;> rfl) | (simp [*, errW_none, errW_some] <;> rfl), by repeat (first | (with_reducible first | exact HB.out | apply below_alloc | apply pw_below_drewN | apply below_drew1 | refine below_set ?_ GE380.out) | exact HB.out)⟩
end Go.Proofs.Ythaifibhflfpkaa.Q
end
