/- A part of the claim's own texts: words, walks and plain laws. -/
import Derived.Test.YthaifibhflfpkaaTp2
import Derived.Test.YthaifibhflfpkaaTp4
import Derived.Test.YthaifibhflfpkaaTp5
import Derived.Test.YthaifibhflfpkaaTp6
import Derived.Laws.BitsAllLaws
namespace Go.Proofs.YthaifibhflfpkaaX
abbrev b20_ : Array Bool := #[false, false, false, false, false, false, false, false, false, false, false]
abbrev b21_ : Array Bool := #[true, false, false, false, false, false, false, false, false, false, false]
abbrev b22_ : Array Bool := #[true, true, false, false, false, false, false, false, false, false, false]
abbrev b23_ : Array Bool := #[true, true, true, false, false, false, false, false, false, false, false]
abbrev b24_ : Array Bool := #[true, true, true, false, false, true, false, false, false, false, false]
abbrev b25_ : Array Bool := #[true, true, true, false, false, true, true, false, false, false, false]
abbrev b26_ : Array Bool := #[true, true, true, false, false, true, true, true, false, false, false]
abbrev b27_ : Array Bool := #[true, true, true, true, false, true, true, true, false, false, false]
abbrev b28_ : Array Bool := #[true, true, true, true, true, true, true, true, false, false, false]
abbrev b29_ : Array Bool := #[true, true, true, true, true, true, true, true, true, false, false]
abbrev b30_ : Array Bool := #[true, true, true, true, true, true, true, true, true, true, false]
abbrev b31_ : Array Bool := #[true, true, true, true, true, true, true, true, true, true, true]
end Go.Proofs.YthaifibhflfpkaaX
section
namespace Go.Proofs.Ythaifibhflfpkaa.Q
open Go.RowKit Go.Proofs.YthaifibhflfpkaaW.PrintWords Go.Proofs.YthaifibhflfpkaaW.PrintLast Go.Proofs.YthaifibhflfpkaaW.PrintMore Go.Proofs.YthaifibhflfpkaaX
attribute [local go_sem] max2_int min2_int max_two min_two max_three min_three max_four min_four   -- for this text's walks alone
set_option linter.unusedVariables false
set_option linter.unusedSimpArgs false
mutual
def r04_By.l0 : Nat → List Int → Int → Int → Int → Option (List Int)
 | 0, _, _, _, _ => none
 | k + 1, x0, x1, x5, x6 => if x6 < (x0.length : Int) then (if 0 ≤ x6 then (r04_By.l0 k x0 x1 (mn x5 (rd x0 x6)) (wrap64 (x6 + 1))) else (none)) else (r04_By.l1 k x0 x1 x5 ([] : List Int) ([] : List Int) 0 0)
def r04_By.l1 : Nat → List Int → Int → Int → List Int → List Int → Int → Int → Option (List Int)
 | 0, _, _, _, _, _, _, _ => none
 | k + 1, x0, x1, x5, x7, x8, x9, x10 => if x10 < (x0.length : Int) then (if 0 ≤ x10 then (if x1 = 64 then (if x7.length < 17592186044416 then (r04_By.l1 k x0 x1 x5 (x7 ++ [IntKind.u64.wrap ((rd x0 x10) - x5)]) x8 x9 (wrap64 (x10 + 1))) else (none)) else (if 0 ≤ x1 then (if (shl .u64 1 x1) = 0 then (none) else (if x7.length < 17592186044416 then ((some (x7 ++ [Int.tmod (IntKind.u64.wrap ((rd x0 x10) - x5)) (shl .u64 1 x1)] : List Int)).bind fun y500 => (if (shr .u64 (IntKind.u64.wrap ((rd x0 x10) - x5)) x1) > 0 then (if x8.length < 140737488355328 then ((some (x8 ++ [(x10) % 256] : List Int)).bind fun y503 => ((r02_Bytes.f k (shr .u64 (IntKind.u64.wrap ((rd x0 x10) - x5)) x1)).bind fun t506 => (if y503.length + t506.length < 140737488355328 then (r04_By.l1 k x0 x1 x5 y500 (y503 ++ t506) (wrap64 (x9 + 1)) (wrap64 (x10 + 1))) else (none)))) else (none)) else (r04_By.l1 k x0 x1 x5 y500 x8 x9 (wrap64 (x10 + 1))))) else (none))) else (none))) else (none)) else ((r03_Pack.f k x7 x1).bind fun bt471 => ((some (([((x0.length : Int)) % 256] : List Int) : List Int)).bind fun y475 => ((r02_Bytes.f k x5).bind fun t478 => (if y475.length + t478.length < 140737488355328 then ((some (y475 ++ t478 : List Int)).bind fun y481 => ((some (([(x1) % 256, (x9) % 256] : List Int) : List Int)).bind fun y484 => (if y481.length + y484.length < 140737488355328 then ((some (y481 ++ y484 : List Int)).bind fun y487 => (if y487.length + bt471.1.length < 140737488355328 then ((some (y487 ++ bt471.1 : List Int)).bind fun y490 => (if y490.length + x8.length < 140737488355328 then (some (y490 ++ x8)) else (none))) else (none))) else (none)))) else (none)))))
end
def r04_By.f (k : Nat) (l0 : List Int) (a1 : Int) : Option (List Int) := if 0 < (l0.length : Int) then (r04_By.l0 k l0 a1 (rd l0 0) 0) else (none)
def r04_By.T18 : Bool × List (List Nat × List Nat) := (true, [([], []), ([], []), ([1], [1]), ([2], [2]), ([0, 3], [0, 3]), ([], []), ([], []), ([5, 6], [5, 6]), ([7, 4], [7]), ([4, 8, 8], [4, 8]), ([9, 9, 0, 1, 2, 3, 4, 5, 6, 7, 8, 9], [0, 9])])
def r04_By.B18 : List Nat := [0, 0, 2, 6, 15, 0, 0, 96, 255, 511, 1023]
theorem r04_By.tab18 : rtab .any (opsOf Try.f83 18) = r04_By.T18 := by kernel_rfl
theorem r04_By.bits18 : waitsOk r04_By.T18.2 r04_By.B18 = true := by kernel_rfl
set_option maxHeartbeats 8000000 in
set_option maxRecDepth 100000 in
theorem r04_By.calls (k : Nat) (A0 : Option Addr) (c0 : Nat) (l0 : List Int) (a1 : Int) (r : List Int) (w : World) (hr0 : Kd.C (Kd.int .u64) w A0 l0.length l0) (hc0 : l0.length ≤ c0) (h : r04_By.f k l0 a1 = some r) :
  Calls Try.prog 83 #[.slice A0 l0.length c0, .int .i64 a1] w fun e w' => ∃ v0_ : Value, e = .returned (v0_) ∧ Kd.R (Kd.int .u8) 5 w' w.heap.size (fun _ => True) v0_ r ∧ Below w.heap.size w w' := by
 have HR0 := aM hr0
 have HC0 := aM hc0
 clear hr0 hc0
 have HB := aM (Below.refl w.heap.size w)
 have H : (if 0 < (l0.length : Int) then (r04_By.l0 k l0 a1 (rd l0 0) 0) else (none)) = some r := h
 clear h
 by_cases c3 : 0 < (l0.length : Int)
 ·
  rw [if_pos c3] at H
  have c3b0 : decide (0 < (l0.length : Int)) = true := decide_eq_true c3
  have c3b1 : decide (0 < l0.length) = true := decide_eq_true (by omega)
  clear c3
  have H' := aM H
  clear H
  have p469 : 0 ≤ (0 : Int) := (by omega)
  have q469 : 0 < (l0.length : Int) := of_decide_eq_true (by first | (with_reducible assumption) | assumption)
  obtain ⟨ad469, e469, hx469_0⟩ := Kd.at_int HR0.out 0 p469 q469
  cases e469
  have qi469 : (0 < l0.length) = True := eq_true (by omega)
  (try rw [show ((0 : Int)).toNat = 0 from rfl] at hx469_0)
  (try rw [Addr.add_zero'] at hx469_0)
  replace p469 := eq_true p469
  replace q469 := eq_true q469
  go_enter Try.func83, Try.ntmps83
  go_wp2
  go_loopg [5, 6] k (fun kq v5 v6 w' => ∃ (x5_1 : Int) (x6_1 : Int), v5 = .int .u64 x5_1 ∧ v6 = .int .i64 x6_1 ∧ Aside0 (r04_By.l0 kq l0 a1 x5_1 x6_1 = some r) ∧ Aside0 (kq ≤ k) ∧ Aside0 (Below w.heap.size w w'))
  case atStart => exact ⟨(rd l0 0), (0), (by first | rfl | (simp; done) | (simp [*]; done)), (by first | rfl | (simp; done) | (simp [*]; done)), H', ⟨Nat.le_refl _⟩, ⟨xB HB.out⟩⟩
  case round =>
   clear H'
   try clear p2
   try clear c3
   try clear c3b0
   try clear c3b1
   try clear hx469_0
   try clear p469
   try clear q469
   obtain ⟨x5_1, x6_1, rfl, rfl, HA, HK1, HB⟩ := hrel
   cases gk with
   | zero => exact absurd HA.out (by simp [r04_By.l0])
   | succ k1 =>
    have H := HA.out
    clear HA
    simp only [r04_By.l0] at H
    by_cases c4 : x6_1 < (l0.length : Int)
    ·
     rw [if_pos c4] at H
     have c4b0 : decide (x6_1 < (l0.length : Int)) = true := decide_eq_true c4
     clear c4
     by_cases c5 : 0 ≤ x6_1
     ·
      rw [if_pos c5] at H
      have c5b0 : decide (0 ≤ x6_1) = true := decide_eq_true c5
      clear c5
      obtain ⟨ji6, hji6⟩ : ∃ j_ : Int, (mn x5_1 (rd l0 x6_1)) = j_ := ⟨_, rfl⟩
      replace H : (r04_By.l0 k1 l0 a1 ji6 (wrap64 (x6_1 + 1))) = some r := by first | (rw [hji6] at H; exact H) | (simp only [hji6] at H ⊢; exact H)
      have hji6_ : (if (rd l0 x6_1) < x5_1 then (rd l0 x6_1) else x5_1) = ji6 := hji6
      have H' := aM H
      clear H
      have p470 : 0 ≤ (x6_1 : Int) := of_decide_eq_true (by first | (with_reducible assumption) | assumption)
      have q470 : x6_1 < (l0.length : Int) := of_decide_eq_true (by first | (with_reducible assumption) | assumption)
      obtain ⟨ad470, e470, hx470_0⟩ := Kd.at_int HR0.out x6_1 p470 q470
      obtain rfl : ad469 = ad470 := (by injection e470)
      replace hx470_0 := (HB.out.cell (World.block_lt_of_cell? w _ hx470_0)).trans hx470_0
      replace p470 := eq_true p470
      replace q470 := eq_true q470
      go_wp2
      go_roundg k1
      case measure => have := HK1.out; omega
      case rel => exact ⟨(ji6), (wrap64 (x6_1 + 1)), (by first | rfl | (simp; done) | (simp only [← hji6] <;> (first | rfl | simp)) | (simp [*]; done)), (by first | rfl | (simp; done) | (simp [*]; done)), H', ⟨by have := HK1.out; omega⟩, ⟨xB HB.out⟩⟩
     ·
      rw [if_neg c5] at H
      exact absurd H (by simp)
    ·
     rw [if_neg c4] at H
     have c4b0 : decide (x6_1 < (l0.length : Int)) = false := decide_eq_false c4
     clear c4
     have H' := aM H
     clear H
     go_wp2
     go_loopg [7, 8, 9, 10] k1 (fun kq v7 v8 v9 v10 w' => ∃ (x7_2 : List Int) (x8_2 : List Int) (x9_2 : Int) (x10_2 : Int), v9 = .int .i64 x9_2 ∧ v10 = .int .i64 x10_2 ∧ Aside0 (r04_By.l1 kq l0 a1 x5_1 x7_2 x8_2 x9_2 x10_2 = some r) ∧ Aside0 (kq ≤ k1) ∧ Aside0 (Kd.R (Kd.int .u64) 40 w' w.heap.size (fun _ => True) v7 x7_2) ∧ Aside0 (Kd.R (Kd.int .u8) 5 w' w.heap.size (fun _ => True) v8 x8_2) ∧ Aside0 (Below w.heap.size w w'))
     case atStart => exact ⟨(([] : List Int)), (([] : List Int)), (0), (0), (by first | rfl | (simp; done) | (simp [*]; done)), (by first | rfl | (simp; done) | (simp [*]; done)), H', ⟨Nat.le_refl _⟩, ⟨by first | exact Kd.R_nil _ _ _ _ _ | exact Kd.N_nil _ _ _ _ _ | exact Kd.V_nil _ _ _ _ _ | exact Kd.Q_nil _ _ _ _ _ | exact Kd.S_nil _ _ _ _ _⟩, ⟨by first | exact Kd.R_nil _ _ _ _ _ | exact Kd.N_nil _ _ _ _ _ | exact Kd.V_nil _ _ _ _ _ | exact Kd.Q_nil _ _ _ _ _ | exact Kd.S_nil _ _ _ _ _⟩, ⟨xB HB.out⟩⟩
     case round =>
      clear H'
      try clear p2
      try clear c3
      try clear c3b0
      try clear c3b1
      try clear c4
      try clear c4b0
      try clear p4
      try clear q4
      try clear hx4
      try clear qi4
      try clear c5
      try clear c5b0
      try clear p6
      try clear hx469_0
      try clear hx470_0
      try clear p2
      try clear p469
      try clear p470
      try clear q469
      try clear q470
      obtain ⟨x7_2, x8_2, x9_2, x10_2, rfl, rfl, HA, HK2, HO_7, HO_8, HB⟩ := hrel
      cases gk with
      | zero => exact absurd HA.out (by simp [r04_By.l1])
      | succ k2 =>
       have H := HA.out
       clear HA
       simp only [r04_By.l1] at H
       by_cases c7 : x10_2 < (l0.length : Int)
       ·
        rw [if_pos c7] at H
        have c7b0 : decide (x10_2 < (l0.length : Int)) = true := decide_eq_true c7
        clear c7
        by_cases c8 : 0 ≤ x10_2
        ·
         rw [if_pos c8] at H
         have c8b0 : decide (0 ≤ x10_2) = true := decide_eq_true c8
         clear c8
         by_cases c9 : a1 = 64
         ·
          rw [if_pos c9] at H
          have c9b0 : (a1 == 64) = true := beq_iff_eq.mpr c9
          have c9b1 : (a1 != 64) = false := bne_eq_false_iff_eq.mpr c9
          clear c9
          by_cases c10 : x7_2.length < 17592186044416
          ·
           rw [if_pos c10] at H
           have LMc10 := aM c10
           clear c10
           obtain ⟨y497, hy497⟩ : ∃ y_ : List Int, y_ = (x7_2 ++ [IntKind.u64.wrap ((rd l0 x10_2) - x5_1)]) := ⟨_, rfl⟩
           replace H : (r04_By.l1 k2 l0 a1 x5_1 y497 x8_2 x9_2 (wrap64 (x10_2 + 1))) = some r := by first | (rw [hy497]; with_reducible exact H) | (have H2_ := (Option.bind_some _ _).symm.trans H; rw [hy497]; with_reducible exact H2_) | (have H2_ := (Option.bind_some _ _).symm.trans H; with_reducible exact H2_) | with_reducible exact H | (rw [hy497]; exact H) | exact H
           have Ny497 := aM hy497
           clear hy497
           have H' := aM H
           clear H
           have p496 : 0 ≤ (x10_2 : Int) := of_decide_eq_true (by first | (with_reducible assumption) | assumption)
           have q496 : x10_2 < (l0.length : Int) := of_decide_eq_true (by first | (with_reducible assumption) | assumption)
           obtain ⟨ad496, e496, hx496_0⟩ := Kd.at_int HR0.out x10_2 p496 q496
           obtain rfl : ad469 = ad496 := (by injection e496)
           replace hx496_0 := (HB.out.cell (World.block_lt_of_cell? w _ hx496_0)).trans hx496_0
           replace p496 := eq_true p496
           replace q496 := eq_true q496
           go_wp2_with (first | ((with_reducible refine gate_builtin (b := .append) (xs := #[.tmp 44, .tmp 46]) rfl ?_); at_builtin; refine Kd.R_append (Kd.int .u64) (w0 := w) w.heap.size rfl (.tmp 44) (.tmp 46) 39 40 (.int .u64 0) 8 rfl Try.underlying39 info40 rfl (by decide) (by omega) u7 x7_2 (IntKind.u64.wrap ((rd l0 x10_2) - x5_1)) [.int .u64 (IntKind.u64.wrap ((rd l0 x10_2) - x5_1))] (fun _ => True) (fun _ => False) rfl rfl ?aP (fun _ hk => hk.elim) ?aF ?aO ?aB ?aS ?aL ?_; (case aP => exact rfl); (case aB => exact (xB HB.out)); (case aF => exact (fun _ _ => trivial)); (case aO => exact (xR HO_7.out)); (case aS => exact (below_size (xB HB.out))); (case aL => have := LMc10.out; omega); intro v498 w11 ho hb hg hat; rw [← Ny497.out] at ho; have n0_ := aM (Kd.R_over' (xR HO_8.out) (Kd.R_typed (xR HO_7.out)) (by decide) hg); have n1_ := aM (hb); have n2_ := aM (ho); clear HO_8; clear HB; clear HO_7; have HO_8 := n0_; have HB := n1_; have HO499 := n2_; clear n0_ n1_ n2_; clear ho hb hg hat))
           go_roundg k2
           case measure => have := HK1.out; have := HK2.out; omega
           case rel => exact ⟨(y497), (x8_2), (x9_2), (wrap64 (x10_2 + 1)), (by first | rfl | (simp; done) | (simp [*]; done)), (by first | rfl | (simp; done) | (simp [*]; done)), H', ⟨by have := HK1.out; have := HK2.out; omega⟩, ⟨by (with_reducible repeat (first | apply Kd.R_alloc | apply Kd.R_drewN | apply Kd.R_drew)); exact HO499.out⟩, ⟨by (with_reducible repeat (first | apply Kd.R_alloc | apply Kd.R_drewN | apply Kd.R_drew)); exact HO_8.out⟩, ⟨xB HB.out⟩⟩
          ·
           rw [if_neg c10] at H
           exact absurd H (by simp)
         ·
          rw [if_neg c9] at H
          have c9b0 : (a1 == 64) = false := beq_eq_false_iff_ne.mpr c9
          have c9b1 : (a1 != 64) = true := bne_iff_ne.mpr c9
          by_cases c12 : 0 ≤ a1
          ·
           rw [if_pos c12] at H
           have c12b0 := eq_true c12
           have c12b1 : decide (0 ≤ a1) = true := decide_eq_true c12
           clear c12
           obtain ⟨ji13, hji13⟩ : ∃ j_ : Int, (shl .u64 1 a1) = j_ := ⟨_, rfl⟩
           replace H : (if (ji13) = 0 then (none) else (if x7_2.length < 17592186044416 then ((some (x7_2 ++ [Int.tmod (IntKind.u64.wrap ((rd l0 x10_2) - x5_1)) (ji13)] : List Int)).bind fun y500 => (if (shr .u64 (IntKind.u64.wrap ((rd l0 x10_2) - x5_1)) a1) > 0 then (if x8_2.length < 140737488355328 then ((some (x8_2 ++ [(x10_2) % 256] : List Int)).bind fun y503 => ((r02_Bytes.f k2 (shr .u64 (IntKind.u64.wrap ((rd l0 x10_2) - x5_1)) a1)).bind fun t506 => (if y503.length + t506.length < 140737488355328 then (r04_By.l1 k2 l0 a1 x5_1 y500 (y503 ++ t506) (wrap64 (x9_2 + 1)) (wrap64 (x10_2 + 1))) else (none)))) else (none)) else (r04_By.l1 k2 l0 a1 x5_1 y500 x8_2 x9_2 (wrap64 (x10_2 + 1))))) else (none))) = some r := by first | (rw [hji13] at H; exact H) | (simp only [hji13] at H ⊢; exact H)
           have hji13_ : (IntKind.u64.wrap (1 * 2 ^ min a1.toNat 64)) = ji13 := hji13
           have hji13z : a1 ≤ 64 → (IntKind.u64.wrap (1 * 2 ^ a1.toNat)) = ji13 := shl_small hji13
           have hji13u : (IntKind.u64.wrap (2 ^ min a1.toNat 64)) = ji13 := by have h_ := hji13_; rw [Int.one_mul] at h_; exact h_
           have hji13v : a1 ≤ 64 → (IntKind.u64.wrap (2 ^ a1.toNat)) = ji13 := fun hle_ => by have h_ := hji13z hle_; rw [Int.one_mul] at h_; exact h_
           by_cases c14 : (ji13) = 0
           ·
            rw [if_pos c14] at H
            exact absurd H (by simp)
           ·
            rw [if_neg c14] at H
            have c14b0 : ((ji13) == 0) = false := beq_eq_false_iff_ne.mpr c14
            have c14b1 : ((ji13) != 0) = true := bne_iff_ne.mpr c14
            by_cases c15 : x7_2.length < 17592186044416
            ·
             rw [if_pos c15] at H
             have LMc15 := aM c15
             clear c15
             obtain ⟨y500, hy500⟩ : ∃ y_ : List Int, y_ = (x7_2 ++ [Int.tmod (IntKind.u64.wrap ((rd l0 x10_2) - x5_1)) (ji13)]) := ⟨_, rfl⟩
             replace H : (if (shr .u64 (IntKind.u64.wrap ((rd l0 x10_2) - x5_1)) a1) > 0 then (if x8_2.length < 140737488355328 then ((some (x8_2 ++ [(x10_2) % 256] : List Int)).bind fun y503 => ((r02_Bytes.f k2 (shr .u64 (IntKind.u64.wrap ((rd l0 x10_2) - x5_1)) a1)).bind fun t506 => (if y503.length + t506.length < 140737488355328 then (r04_By.l1 k2 l0 a1 x5_1 y500 (y503 ++ t506) (wrap64 (x9_2 + 1)) (wrap64 (x10_2 + 1))) else (none)))) else (none)) else (r04_By.l1 k2 l0 a1 x5_1 y500 x8_2 x9_2 (wrap64 (x10_2 + 1)))) = some r := by first | (rw [hy500]; with_reducible exact H) | (have H2_ := (Option.bind_some _ _).symm.trans H; rw [hy500]; with_reducible exact H2_) | (have H2_ := (Option.bind_some _ _).symm.trans H; with_reducible exact H2_) | with_reducible exact H | (rw [hy500]; exact H) | exact H
             have Ny500 := aM hy500
             clear hy500
             have c16b0 := eq_true (of_decide_eq_true (by first | (with_reducible assumption) | assumption) : 0 ≤ a1)
             obtain ⟨ji17, hji17⟩ : ∃ j_ : Int, (shr .u64 (IntKind.u64.wrap ((rd l0 x10_2) - x5_1)) a1) = j_ := ⟨_, rfl⟩
             replace H : (if (ji17) > 0 then (if x8_2.length < 140737488355328 then ((some (x8_2 ++ [(x10_2) % 256] : List Int)).bind fun y503 => ((r02_Bytes.f k2 (ji17)).bind fun t506 => (if y503.length + t506.length < 140737488355328 then (r04_By.l1 k2 l0 a1 x5_1 y500 (y503 ++ t506) (wrap64 (x9_2 + 1)) (wrap64 (x10_2 + 1))) else (none)))) else (none)) else (r04_By.l1 k2 l0 a1 x5_1 y500 x8_2 x9_2 (wrap64 (x10_2 + 1)))) = some r := by first | (rw [hji17] at H; exact H) | (simp only [hji17] at H ⊢; exact H)
             have hji17_ : ((IntKind.u64.wrap ((rd l0 x10_2) - x5_1)) / 2 ^ min a1.toNat 64) = ji17 := hji17
             have hji17z : a1 ≤ 64 → ((IntKind.u64.wrap ((rd l0 x10_2) - x5_1)) / 2 ^ a1.toNat) = ji17 := shr_small hji17
             by_cases c18 : (ji17) > 0
             ·
              rw [if_pos c18] at H
              have c18b0 : decide (0 < (ji17)) = true := decide_eq_true c18
              clear c18
              by_cases c19 : x8_2.length < 140737488355328
              ·
               rw [if_pos c19] at H
               have LMc19 := aM c19
               clear c19
               obtain ⟨y503, hy503⟩ : ∃ y_ : List Int, y_ = (x8_2 ++ [(x10_2) % 256]) := ⟨_, rfl⟩
               replace H : ((r02_Bytes.f k2 (ji17)).bind fun t506 => (if y503.length + t506.length < 140737488355328 then (r04_By.l1 k2 l0 a1 x5_1 y500 (y503 ++ t506) (wrap64 (x9_2 + 1)) (wrap64 (x10_2 + 1))) else (none))) = some r := by first | (rw [hy503]; with_reducible exact H) | (have H2_ := (Option.bind_some _ _).symm.trans H; rw [hy503]; with_reducible exact H2_) | (have H2_ := (Option.bind_some _ _).symm.trans H; with_reducible exact H2_) | with_reducible exact H | (rw [hy503]; exact H) | exact H
               have Ny503 := aM hy503
               clear hy503
               have c20b0 := eq_true (of_decide_eq_true (by first | (with_reducible assumption) | assumption) : 0 ≤ a1)
               replace H := Option.bind_eq_some_iff.mp H
               obtain ⟨t506, A210, H⟩ := H
               replace H : (if y503.length + t506.length < 140737488355328 then (r04_By.l1 k2 l0 a1 x5_1 y500 (y503 ++ t506) (wrap64 (x9_2 + 1)) (wrap64 (x10_2 + 1))) else (none)) = some r := H
               have A21 := aM A210
               clear A210
               by_cases c22 : y503.length + t506.length < 140737488355328
               ·
                rw [if_pos c22] at H
                have LMc22 := aM c22
                clear c22
                obtain ⟨y509, hy509⟩ : ∃ y_ : List Int, y_ = (y503 ++ t506) := ⟨_, rfl⟩
                replace H : (r04_By.l1 k2 l0 a1 x5_1 y500 y509 (wrap64 (x9_2 + 1)) (wrap64 (x10_2 + 1))) = some r := by first | (rw [hy509]; with_reducible exact H) | (have H2_ := (Option.bind_some _ _).symm.trans H; rw [hy509]; with_reducible exact H2_) | (have H2_ := (Option.bind_some _ _).symm.trans H; with_reducible exact H2_) | with_reducible exact H | (rw [hy509]; exact H) | exact H
                have Ny509 := aM hy509
                clear hy509
                have H' := aM H
                clear H
                have p496 : 0 ≤ (x10_2 : Int) := of_decide_eq_true (by first | (with_reducible assumption) | assumption)
                have q496 : x10_2 < (l0.length : Int) := of_decide_eq_true (by first | (with_reducible assumption) | assumption)
                obtain ⟨ad496, e496, hx496_0⟩ := Kd.at_int HR0.out x10_2 p496 q496
                obtain rfl : ad469 = ad496 := (by injection e496)
                replace hx496_0 := (HB.out.cell (World.block_lt_of_cell? w _ hx496_0)).trans hx496_0
                replace p496 := eq_true p496
                replace q496 := eq_true q496
                try go_wp2_with (first | ((with_reducible refine gate_builtin (b := .append) (xs := #[.tmp 48, .tmp 53]) rfl ?_); at_builtin; refine Kd.R_append (Kd.int .u64) (w0 := w) w.heap.size rfl (.tmp 48) (.tmp 53) 39 40 (.int .u64 0) 8 rfl Try.underlying39 info40 rfl (by decide) (by omega) u7 x7_2 (Int.tmod (IntKind.u64.wrap ((rd l0 x10_2) - x5_1)) (ji13)) [.int .u64 (Int.tmod (IntKind.u64.wrap ((rd l0 x10_2) - x5_1)) (ji13))] (fun _ => True) (fun _ => False) rfl rfl ?aP (fun _ hk => hk.elim) ?aF ?aO ?aB ?aS ?aL ?_; (case aP => exact rfl); (case aB => exact (xB HB.out)); (case aF => exact (fun _ _ => trivial)); (case aO => exact (xR HO_7.out)); (case aS => exact (below_size (xB HB.out))); (case aL => have := LMc15.out; omega); intro v501 w23 ho hb hg hat; rw [← Ny500.out] at ho; have n0_ := aM (Kd.R_over' (xR HO_8.out) (Kd.R_typed (xR HO_7.out)) (by decide) hg); have n1_ := aM (hb); have n2_ := aM (ho); clear HO_8; clear HB; clear HO_7; have HO_8 := n0_; have HB := n1_; have HO502 := n2_; clear n0_ n1_ n2_; clear ho hb hg hat))
                have n0_ := aM (Kd.R_drew HO_8.out)
                have n1_ := aM (Kd.R_drew HO502.out)
                have n2_ := aM (below_drew1 HB.out)
                clear HO_8
                clear HO502
                clear HB
                have HO_8 := n0_
                have HO502 := n1_
                have HB := n2_
                clear n0_ n1_ n2_
                refine start_ (n := 11) (S := fun w' => True) (ds := []) b20_ (by kernel_rfl) rfl rfl trivial (fun hHeld => ?_); refine with_tabW r04_By.tab18 r04_By.bits18 (fun HT_ HW_ => ?_)
                generalize w23.drew = w24 at HO_8 HO502 HB hHeld ⊢
                refine pure_ (i := 0) (N := some 61) (v := ?_) (a' := ?_) b21_ rfl rfl (any_of HT_.out (by kernel_rfl)) (fun _ _ _ h => h) (Or.inl ⟨by rfl, ?_⟩) ?_ ?_; rotate_left; (· intro w'; go_simp; with_reducible rfl); rotate_left; (· simp only [xQ, i64_w, i32_w]; rfl)
                refine pure_ (i := 1) (N := some 62) (v := ?_) (a' := ?_) b22_ rfl rfl (any_of HT_.out (by kernel_rfl)) (fun _ _ _ h => h) (Or.inl ⟨by rfl, ?_⟩) ?_ ?_; rotate_left; (· intro w'; go_simp; with_reducible rfl); rotate_left; (· simp only [xQ, i64_w, i32_w]; rfl)
                refine pure_ (i := 2) (N := some 63) (v := ?_) (a' := ?_) b23_ rfl rfl (any_of HT_.out (by kernel_rfl)) (fun _ _ _ h => h) (Or.inl ⟨by rfl, ?_⟩) ?_ ?_; rotate_left; (· intro w'; go_simp; with_reducible rfl); rotate_left; (· simp only [xQ, i64_w, i32_w]; rfl)
                refine pure_ (i := 5) (N := some 66) (v := ?_) (a' := ?_) b24_ rfl rfl (any_of HT_.out (by kernel_rfl)) (fun _ _ _ h => h) (Or.inl ⟨by rfl, ?_⟩) ?_ ?_; rotate_left; (· intro w'; go_simp; with_reducible rfl); rotate_left; (· simp only [xQ, i64_w, i32_w]; rfl)
                refine pure_ (i := 6) (N := some 67) (v := ?_) (a' := ?_) b25_ rfl rfl (any_of HT_.out (by kernel_rfl)) (fun _ _ _ h => h) (Or.inl ⟨by rfl, ?_⟩) ?_ ?_; rotate_left; (· intro w'; go_simp; with_reducible rfl); rotate_left; (· simp only [xQ, i64_w, i32_w]; rfl)
                refine pure_ (i := 7) (N := some 68) (v := ?_) (a' := ?_) b26_ rfl rfl (any_of HT_.out (by kernel_rfl)) (fun _ _ _ h => h) (Or.inl ⟨by rfl, ?_⟩) ?_ ?_; rotate_left; (· intro w'; go_simp; with_reducible rfl); rotate_left; (· simp only [xQ, i64_w, i32_w]; rfl)
                refine one_ (i := 3) (N := some 64) b27_ rfl rfl (one_of HT_.out (by kernel_rfl)) (by decide) (fun K hK => ?_)
                refine value_ (w1 := ?_) (v := ?_) (by rfl) rfl ?_ ?_
                rotate_left 2
                ·
                 go_simp
                 constructor
                 · rfl
                 · rfl
                refine hK.out _ _ trivial (fun hHeld => ?_)
                clear hK K
                refine norm_ (a' := ?_) ?_ ?_
                rotate_left
                ·
                 show Act.put _ (some 64) _ = _
                 simp only [xQ, i64_w, i32_w]
                 rfl
                refine one_ (i := 4) (N := some 65) b28_ rfl rfl (one_of HT_.out (by kernel_rfl)) (by decide) (fun K hK => ?_)
                refine Kd.R_append_step (Kd.int .u8) (w0 := w) w.heap.size (by rfl) (.tmp 61) (.tmp 64) 22 5 (.int .u8 0) 1 rfl Try.underlying22 info5 rfl (by decide) (by omega) u8 x8_2 ((x10_2) % 256) [.int .u8 ((x10_2) % 256)] (fun _ => True) (fun _ => False) rfl rfl ?aP (fun _ hk => hk.elim) ?aF ?aO ?aB ?aS ?aL ?_
                (case aP => exact rfl)
                (case aB => exact (xB HB.out))
                (case aF => exact (fun _ _ => trivial))
                (case aO => exact (xR HO_8.out))
                (case aS => exact (below_size (xB HB.out)))
                (case aL => have := LMc19.out; omega)
                intro v504 w25 ho hb hg hat
                rw [← Ny503.out] at ho
                have n0_ := aM (Kd.R_over' (xR HO502.out) (Kd.R_typed (xR HO_8.out)) (by decide) hg)
                have n1_ := aM (hb)
                have n2_ := aM (ho)
                clear HO502
                clear HB
                clear HO_8
                have HO502 := n0_
                have HB := n1_
                have HO505 := n2_
                clear n0_ n1_ n2_
                clear ho hb hg hat
                refine hK.out _ _ trivial (fun hHeld => ?_)
                clear hK K
                refine norm_ (a' := ?_) ?_ ?_
                rotate_left
                ·
                 show Act.put _ (some 65) _ = _
                 simp only [xQ, i64_w, i32_w]
                 rfl
                refine one_ (i := 8) (N := some 69) b29_ rfl rfl (one_of HT_.out (by kernel_rfl)) (by decide) (fun K hK => ?_)
                refine goes_ Try.func56 (by kernel_rfl) rfl #[.int .u64 ji17] (by rfl) rfl rfl (by (try simp only [List.map_toArray, List.map_cons, List.map_nil]); first | done | (simp only [hji17]; rfl) | rfl | (simp only [List.length_drop, List.length_take]; rfl)) ?_
                with_reducible refine (r02_Bytes.calls k2 ji17 t506 _ A21.out).mono ?_
                rintro e w26 ⟨v507, rfl, ho0, hb⟩
                refine ⟨_, rfl, ?_⟩
                have n0_ := aM (Kd.R_below (xR HO502.out) hb)
                have n1_ := aM (Kd.R_elder' (xR HO505.out) (Kd.R_base ho0) hb)
                have n2_ := aM (Kd.R_lower (Kd.R_new' ho0 (Kd.R_lt (xR HO505.out))) (below_size (xB HB.out)))
                have n3_ := aM (below_step (xB HB.out) hb)
                clear HO502
                clear HO505
                clear HB
                have HO502 := n0_
                have HO505 := n1_
                have HO508 := n2_
                have HB := n3_
                clear n0_ n1_ n2_ n3_
                (try clear hb)
                (try clear hb2)
                (try clear hk)
                (try clear hi)
                (try clear ho0)
                obtain ⟨Ao28, co28, eo28⟩ := Kd.R_slice HO508.out
                (first | subst eo28 | (injection eo28 with f1_ f2_ f3_; have f4_ := f1_.symm; have f5_ := f3_.symm; clear f1_ f2_ f3_; subst f4_; subst f5_))
                refine hK.out _ _ trivial (fun hHeld => ?_)
                clear hK K
                refine norm_ (a' := ?_) ?_ ?_
                rotate_left
                ·
                 show Act.put _ (some 69) _ = _
                 simp only [xQ, i64_w, i32_w]
                 rfl
                refine one_ (i := 9) (N := some 70) b30_ rfl rfl (one_of HT_.out (by kernel_rfl)) (by decide) (fun K hK => ?_)
                refine Kd.R_append_rows_step (Kd.int .u8) (w0 := w) w.heap.size (by rfl) (.tmp 65) (.tmp 69) 22 5 (.int .u8 0) 1 rfl Try.underlying22 info5 rfl (by decide) (by omega) v504 y503 t506 _ _ _ (fun k_ => some k_ ≠ (.slice Ao28 t506.length co28 : Value).ownBlock) (fun _ => False) rfl rfl ?aO ?aR (fun _ _ h => h) (fun _ h => h.elim) ?aF ?aB ?aS ?aL ?_
                (case aR => exact xC ((Kd.R_reads' HO508.out).2.2))
                (case aB => exact (xB HB.out))
                (case aF => exact (fun k_ hk => Kd.fresh' (Kd.R_lt (xR HO508.out)) k_ hk))
                (case aO => exact (by (with_reducible repeat (first | apply Kd.R_alloc | apply Kd.R_drewN | apply Kd.R_drew)); exact Kd.R_mono HO505.out (fun _ hk => hk.2)))
                (case aS => exact (below_size (xB HB.out)))
                (case aL => have := LMc22.out; omega)
                intro v510 w27 ho hb hg hat
                rw [← Ny509.out] at ho
                have n0_ := aM (Kd.R_over' (xR HO502.out) (Kd.R_typed (xR HO505.out)) (by decide) hg)
                have n1_ := aM (Kd.R_after (ok := (fun _ => True)) (xR HO508.out) hg hat)
                have n2_ := aM (hb)
                have n3_ := aM (ho)
                clear HO502
                clear HO508
                clear HB
                clear HO505
                have HO502 := n0_
                have HO508 := n1_
                have HB := n2_
                have HO511 := n3_
                clear n0_ n1_ n2_ n3_
                clear ho hb hg hat
                refine hK.out _ _ trivial (fun hHeld => ?_)
                clear hK K
                refine norm_ (a' := ?_) ?_ ?_
                rotate_left
                ·
                 show Act.put _ (some 70) _ = _
                 simp only [xQ, i64_w, i32_w]
                 rfl
                refine pure_ (i := 10) (N := some 8) (v := ?_) (a' := ?_) b31_ rfl rfl (any_of HT_.out (by kernel_rfl)) (fun _ _ _ h => h) (Or.inl ⟨by rfl, ?_⟩) ?_ ?_; rotate_left; (· intro w'; go_simp; with_reducible rfl); rotate_left; (· simp only [xQ, i64_w, i32_w]; rfl)
                refine done_ (done_of HT_.out (by kernel_rfl)) ?_
                try go_wp2
                go_roundg k2
                case measure => have := HK1.out; have := HK2.out; omega
                case rel => exact ⟨(y500), (y509), (wrap64 (x9_2 + 1)), (wrap64 (x10_2 + 1)), (by first | rfl | (simp; done) | (simp [*]; done)), (by first | rfl | (simp; done) | (simp [*]; done)), H', ⟨by have := HK1.out; have := HK2.out; omega⟩, ⟨by (with_reducible repeat (first | apply Kd.R_alloc | apply Kd.R_drewN | apply Kd.R_drew)); exact HO502.out⟩, ⟨by (with_reducible repeat (first | apply Kd.R_alloc | apply Kd.R_drewN | apply Kd.R_drew)); exact Kd.R_mono HO511.out (fun _ hk => trivial)⟩, ⟨xB HB.out⟩⟩
               ·
                rw [if_neg c22] at H
                exact absurd H (by simp)
              ·
               rw [if_neg c19] at H
               exact absurd H (by simp)
             ·
              rw [if_neg c18] at H
              have c18b0 : decide (0 < (ji17)) = false := decide_eq_false c18
              clear c18
              have H' := aM H
              clear H
              have p496 : 0 ≤ (x10_2 : Int) := of_decide_eq_true (by first | (with_reducible assumption) | assumption)
              have q496 : x10_2 < (l0.length : Int) := of_decide_eq_true (by first | (with_reducible assumption) | assumption)
              obtain ⟨ad496, e496, hx496_0⟩ := Kd.at_int HR0.out x10_2 p496 q496
              obtain rfl : ad469 = ad496 := (by injection e496)
              replace hx496_0 := (HB.out.cell (World.block_lt_of_cell? w _ hx496_0)).trans hx496_0
              replace p496 := eq_true p496
              replace q496 := eq_true q496
              go_wp2_with (first | ((with_reducible refine gate_builtin (b := .append) (xs := #[.tmp 48, .tmp 53]) rfl ?_); at_builtin; refine Kd.R_append (Kd.int .u64) (w0 := w) w.heap.size rfl (.tmp 48) (.tmp 53) 39 40 (.int .u64 0) 8 rfl Try.underlying39 info40 rfl (by decide) (by omega) u7 x7_2 (Int.tmod (IntKind.u64.wrap ((rd l0 x10_2) - x5_1)) (ji13)) [.int .u64 (Int.tmod (IntKind.u64.wrap ((rd l0 x10_2) - x5_1)) (ji13))] (fun _ => True) (fun _ => False) rfl rfl ?aP (fun _ hk => hk.elim) ?aF ?aO ?aB ?aS ?aL ?_; (case aP => exact rfl); (case aB => exact (xB HB.out)); (case aF => exact (fun _ _ => trivial)); (case aO => exact (xR HO_7.out)); (case aS => exact (below_size (xB HB.out))); (case aL => have := LMc15.out; omega); intro v501 w29 ho hb hg hat; rw [← Ny500.out] at ho; have n0_ := aM (Kd.R_over' (xR HO_8.out) (Kd.R_typed (xR HO_7.out)) (by decide) hg); have n1_ := aM (hb); have n2_ := aM (ho); clear HO_8; clear HB; clear HO_7; have HO_8 := n0_; have HB := n1_; have HO502 := n2_; clear n0_ n1_ n2_; clear ho hb hg hat))
              go_roundg k2
              case measure => have := HK1.out; have := HK2.out; omega
              case rel => exact ⟨(y500), (x8_2), (x9_2), (wrap64 (x10_2 + 1)), (by first | rfl | (simp; done) | (simp [*]; done)), (by first | rfl | (simp; done) | (simp [*]; done)), H', ⟨by have := HK1.out; have := HK2.out; omega⟩, ⟨by (with_reducible repeat (first | apply Kd.R_alloc | apply Kd.R_drewN | apply Kd.R_drew)); exact HO502.out⟩, ⟨by (with_reducible repeat (first | apply Kd.R_alloc | apply Kd.R_drewN | apply Kd.R_drew)); exact HO_8.out⟩, ⟨xB HB.out⟩⟩
            ·
             rw [if_neg c15] at H
             exact absurd H (by simp)
          ·
           rw [if_neg c12] at H
           exact absurd H (by simp)
        ·
         rw [if_neg c8] at H
         exact absurd H (by simp)
       ·
        rw [if_neg c7] at H
        have c7b0 : decide (x10_2 < (l0.length : Int)) = false := decide_eq_false c7
        clear c7
        replace H := Option.bind_eq_some_iff.mp H
        obtain ⟨⟨t471, t472⟩, A300, H⟩ := H
        replace H : ((some (([((l0.length : Int)) % 256] : List Int) : List Int)).bind fun y475 => ((r02_Bytes.f k2 x5_1).bind fun t478 => (if y475.length + t478.length < 140737488355328 then ((some (y475 ++ t478 : List Int)).bind fun y481 => ((some (([(a1) % 256, (x9_2) % 256] : List Int) : List Int)).bind fun y484 => (if y481.length + y484.length < 140737488355328 then ((some (y481 ++ y484 : List Int)).bind fun y487 => (if y487.length + t471.length < 140737488355328 then ((some (y487 ++ t471 : List Int)).bind fun y490 => (if y490.length + x8_2.length < 140737488355328 then (some (y490 ++ x8_2)) else (none))) else (none))) else (none)))) else (none)))) = some r := H
        have A30 := aM A300
        clear A300
        obtain ⟨y475, hy475⟩ : ∃ y_ : List Int, y_ = (([((l0.length : Int)) % 256] : List Int)) := ⟨_, rfl⟩
        replace H : ((r02_Bytes.f k2 x5_1).bind fun t478 => (if y475.length + t478.length < 140737488355328 then ((some (y475 ++ t478 : List Int)).bind fun y481 => ((some (([(a1) % 256, (x9_2) % 256] : List Int) : List Int)).bind fun y484 => (if y481.length + y484.length < 140737488355328 then ((some (y481 ++ y484 : List Int)).bind fun y487 => (if y487.length + t471.length < 140737488355328 then ((some (y487 ++ t471 : List Int)).bind fun y490 => (if y490.length + x8_2.length < 140737488355328 then (some (y490 ++ x8_2)) else (none))) else (none))) else (none)))) else (none))) = some r := by first | (rw [hy475]; with_reducible exact H) | (have H2_ := (Option.bind_some _ _).symm.trans H; rw [hy475]; with_reducible exact H2_) | (have H2_ := (Option.bind_some _ _).symm.trans H; with_reducible exact H2_) | with_reducible exact H | (rw [hy475]; exact H) | exact H
        have Ny475 := aM hy475
        clear hy475
        replace H := Option.bind_eq_some_iff.mp H
        obtain ⟨t478, A310, H⟩ := H
        replace H : (if y475.length + t478.length < 140737488355328 then ((some (y475 ++ t478 : List Int)).bind fun y481 => ((some (([(a1) % 256, (x9_2) % 256] : List Int) : List Int)).bind fun y484 => (if y481.length + y484.length < 140737488355328 then ((some (y481 ++ y484 : List Int)).bind fun y487 => (if y487.length + t471.length < 140737488355328 then ((some (y487 ++ t471 : List Int)).bind fun y490 => (if y490.length + x8_2.length < 140737488355328 then (some (y490 ++ x8_2)) else (none))) else (none))) else (none)))) else (none)) = some r := H
        have A31 := aM A310
        clear A310
        by_cases c32 : y475.length + t478.length < 140737488355328
        ·
         rw [if_pos c32] at H
         have LMc32 := aM c32
         clear c32
         obtain ⟨y481, hy481⟩ : ∃ y_ : List Int, y_ = (y475 ++ t478) := ⟨_, rfl⟩
         replace H : ((some (([(a1) % 256, (x9_2) % 256] : List Int) : List Int)).bind fun y484 => (if y481.length + y484.length < 140737488355328 then ((some (y481 ++ y484 : List Int)).bind fun y487 => (if y487.length + t471.length < 140737488355328 then ((some (y487 ++ t471 : List Int)).bind fun y490 => (if y490.length + x8_2.length < 140737488355328 then (some (y490 ++ x8_2)) else (none))) else (none))) else (none))) = some r := by first | (rw [hy481]; with_reducible exact H) | (have H2_ := (Option.bind_some _ _).symm.trans H; rw [hy481]; with_reducible exact H2_) | (have H2_ := (Option.bind_some _ _).symm.trans H; with_reducible exact H2_) | with_reducible exact H | (rw [hy481]; exact H) | exact H
         have Ny481 := aM hy481
         clear hy481
         obtain ⟨y484, hy484⟩ : ∃ y_ : List Int, y_ = (([(a1) % 256, (x9_2) % 256] : List Int)) := ⟨_, rfl⟩
         replace H : (if y481.length + y484.length < 140737488355328 then ((some (y481 ++ y484 : List Int)).bind fun y487 => (if y487.length + t471.length < 140737488355328 then ((some (y487 ++ t471 : List Int)).bind fun y490 => (if y490.length + x8_2.length < 140737488355328 then (some (y490 ++ x8_2)) else (none))) else (none))) else (none)) = some r := by first | (rw [hy484]; with_reducible exact H) | (have H2_ := (Option.bind_some _ _).symm.trans H; rw [hy484]; with_reducible exact H2_) | (have H2_ := (Option.bind_some _ _).symm.trans H; with_reducible exact H2_) | with_reducible exact H | (rw [hy484]; exact H) | exact H
         have Ny484 := aM hy484
         clear hy484
         by_cases c33 : y481.length + y484.length < 140737488355328
         ·
          rw [if_pos c33] at H
          have LMc33 := aM c33
          clear c33
          obtain ⟨y487, hy487⟩ : ∃ y_ : List Int, y_ = (y481 ++ y484) := ⟨_, rfl⟩
          replace H : (if y487.length + t471.length < 140737488355328 then ((some (y487 ++ t471 : List Int)).bind fun y490 => (if y490.length + x8_2.length < 140737488355328 then (some (y490 ++ x8_2)) else (none))) else (none)) = some r := by first | (rw [hy487]; with_reducible exact H) | (have H2_ := (Option.bind_some _ _).symm.trans H; rw [hy487]; with_reducible exact H2_) | (have H2_ := (Option.bind_some _ _).symm.trans H; with_reducible exact H2_) | with_reducible exact H | (rw [hy487]; exact H) | exact H
          have Ny487 := aM hy487
          clear hy487
          by_cases c34 : y487.length + t471.length < 140737488355328
          ·
           rw [if_pos c34] at H
           have LMc34 := aM c34
           clear c34
           obtain ⟨y490, hy490⟩ : ∃ y_ : List Int, y_ = (y487 ++ t471) := ⟨_, rfl⟩
           replace H : (if y490.length + x8_2.length < 140737488355328 then (some (y490 ++ x8_2)) else (none)) = some r := by first | (rw [hy490]; with_reducible exact H) | (have H2_ := (Option.bind_some _ _).symm.trans H; rw [hy490]; with_reducible exact H2_) | (have H2_ := (Option.bind_some _ _).symm.trans H; with_reducible exact H2_) | with_reducible exact H | (rw [hy490]; exact H) | exact H
           have Ny490 := aM hy490
           clear hy490
           by_cases c35 : y490.length + x8_2.length < 140737488355328
           ·
            rw [if_pos c35] at H
            have LMc35 := aM c35
            clear c35
            obtain ⟨y493, hy493⟩ : ∃ y_ : List Int, y_ = (y490 ++ x8_2) := ⟨_, rfl⟩
            replace H : (some y493) = some r := by first | (rw [hy493]; with_reducible exact H) | (have H2_ := (Option.bind_some _ _).symm.trans H; rw [hy493]; with_reducible exact H2_) | (have H2_ := (Option.bind_some _ _).symm.trans H; with_reducible exact H2_) | with_reducible exact H | (rw [hy493]; exact H) | exact H
            have Ny493 := aM hy493
            clear hy493
            obtain rfl := Option.some.inj H
            obtain ⟨Ao36, co36, eo36⟩ := Kd.R_slice HO_7.out
            subst eo36
            go_wp2_with (first | ((with_reducible refine gate_callee (f := 107) rfl ?_); refine goesL_ (some 74) rfl rfl Try.func107 (by kernel_rfl) rfl #[.slice Ao36 x7_2.length co36, .int .i64 a1] rfl (by (try simp only [List.map_toArray, List.map_cons, List.map_nil]); first | done | rfl | (simp only [List.length_drop, List.length_take]; rfl)) ?_; (with_reducible refine (r03_Pack.calls k2 _ _ x7_2 a1 t471 t472 _ ?side1 ?side2 A30.out).mono ?_); (case side1 => exact xC ((Kd.R_reads' HO_7.out).2.2)); (case side2 => exact (Kd.R_reads' HO_7.out).2.1); rintro e w37 ⟨v473, rfl, ho0, hb⟩; refine ⟨_, rfl, ?_⟩; have n0_ := aM (Kd.R_below (xR HO_7.out) hb); have n1_ := aM (Kd.R_elder' (xR HO_8.out) (Kd.R_base ho0) hb); have n2_ := aM (Kd.R_lower (Kd.R_new' ho0 (Kd.R_lt (xR HO_8.out))) (below_size (xB HB.out))); have n3_ := aM (below_step (xB HB.out) hb); clear HO_7; clear HO_8; clear HB; have HO_7 := n0_; have HO_8 := n1_; have HO474 := n2_; have HB := n3_; clear n0_ n1_ n2_ n3_; (try clear hb); (try clear hb2); (try clear hk); (try clear hi); (try clear ho0)) | ((with_reducible refine gate_dst (N := 80) rfl ?_); refine Kd.R_lit (Kd.int .u8) _ 5 ?hg (N := 80) ?hd (xs := ([((l0.length : Int)) % 256] : List Int)) (inner := [.int .u8 (((l0.length : Int)) % 256)]) (ok := fun _ => True) (okp := fun _ => True) ?hr ?hp (fun _ hk => hk) trivial (Below.refl _ _) (Nat.le_refl _) (by simp) ?_; (case hd => rfl); (case hg => rfl); (case hr => first | (go_simp; done) | (go_simp; rfl)); (case hp => exact (Reps.one (show Kd.M (Kd.int .u8) _ _ _ (((l0.length : Int)) % 256) [.int .u8 (((l0.length : Int)) % 256)] from rfl) (Reps.none _ _))); intro v476 w38 ho39 hb hg_ hnew_; clear hg_ hnew_; (first | rw [← Ny475.out] at ho39 | (simp only [Int.reduceToNat] at ho39; rw [← Ny475.out] at ho39)); have n0_ := aM (Kd.R_below (xR HO_7.out) hb); have n1_ := aM (Kd.R_elder' (xR HO_8.out) (Kd.R_base ho39) hb); have n2_ := aM (Kd.R_elder' (xR HO474.out) (Kd.R_base ho39) hb); have n3_ := aM (Kd.R_lower (Kd.R_new' (Kd.R_new' ho39 (Kd.R_lt (xR HO_8.out))) (Kd.R_lt (xR HO474.out))) (below_size (xB HB.out))); have n4_ := aM (below_step (xB HB.out) hb); clear HO_7; clear HO_8; clear HO474; clear HB; have HO_7 := n0_; have HO_8 := n1_; have HO474 := n2_; have HO477 := n3_; have HB := n4_; clear n0_ n1_ n2_ n3_ n4_; clear hb ho39) | ((with_reducible refine gate_callee (f := 56) rfl ?_); refine goesL_ (some 82) rfl rfl Try.func56 (by kernel_rfl) rfl #[.int .u64 x5_1] rfl (by (try simp only [List.map_toArray, List.map_cons, List.map_nil]); first | done | rfl | (simp only [List.length_drop, List.length_take]; rfl)) ?_; (with_reducible refine (r02_Bytes.calls k2 x5_1 t478 _ A31.out).mono ?_); rintro e w40 ⟨v479, rfl, ho0, hb⟩; refine ⟨_, rfl, ?_⟩; have n0_ := aM (Kd.R_below (xR HO_7.out) hb); have n1_ := aM (Kd.R_elder' (xR HO_8.out) (Kd.R_base ho0) hb); have n2_ := aM (Kd.R_elder' (xR HO474.out) (Kd.R_base ho0) hb); have n3_ := aM (Kd.R_elder' (xR HO477.out) (Kd.R_base ho0) hb); have n4_ := aM (Kd.R_lower (Kd.R_new' (Kd.R_new' (Kd.R_new' ho0 (Kd.R_lt (xR HO_8.out))) (Kd.R_lt (xR HO474.out))) (Kd.R_lt (xR HO477.out))) (below_size (xB HB.out))); have n5_ := aM (below_step (xB HB.out) hb); clear HO_7; clear HO_8; clear HO474; clear HO477; clear HB; have HO_7 := n0_; have HO_8 := n1_; have HO474 := n2_; have HO477 := n3_; have HO480 := n4_; have HB := n5_; clear n0_ n1_ n2_ n3_ n4_ n5_; (try clear hb); (try clear hb2); (try clear hk); (try clear hi); (try clear ho0); obtain ⟨Ao42, co42, eo42⟩ := Kd.R_slice HO480.out; subst eo42) | ((with_reducible refine gate_builtin (b := .append) (xs := #[.tmp 80, .tmp 82]) rfl ?_); at_builtin; refine Kd.R_append_rows (Kd.int .u8) (w0 := w) w.heap.size rfl (.tmp 80) (.tmp 82) 22 5 (.int .u8 0) 1 rfl Try.underlying22 info5 rfl (by decide) (by omega) v476 y475 t478 _ _ _ (fun k_ => some k_ ≠ (u8 : Value).ownBlock ∧ some k_ ≠ (v473 : Value).ownBlock ∧ some k_ ≠ (.slice Ao42 t478.length co42 : Value).ownBlock) (fun _ => False) rfl rfl ?aO ?aR (fun _ _ h => h) (fun _ h => h.elim) ?aF ?aB ?aS ?aL ?_; (case aR => exact xC ((Kd.R_reads' HO480.out).2.2)); (case aB => exact (xB HB.out)); (case aF => exact (fun k_ hk => ⟨Kd.fresh' (Kd.R_lt (xR HO_8.out)) k_ hk, Kd.fresh' (Kd.R_lt (xR HO474.out)) k_ hk, Kd.fresh' (Kd.R_lt (xR HO480.out)) k_ hk⟩)); (case aO => exact (by (with_reducible repeat (first | apply Kd.R_alloc | apply Kd.R_drewN | apply Kd.R_drew)); exact Kd.R_mono HO477.out (fun _ hk => ⟨hk.1.1.2, ⟨hk.1.2, hk.2⟩⟩))); (case aS => exact (below_size (xB HB.out))); (case aL => have := LMc32.out; omega); intro v482 w41 ho hb hg hat; rw [← Ny481.out] at ho; have n0_ := aM (Kd.R_over' (xR HO_7.out) (Kd.R_typed (xR HO477.out)) (by decide) hg); have n1_ := aM (Kd.R_after (ok := (fun k_ => some k_ ≠ (v473 : Value).ownBlock ∧ some k_ ≠ (.slice Ao42 t478.length co42 : Value).ownBlock)) (by (with_reducible repeat (first | apply Kd.R_alloc | apply Kd.R_drewN | apply Kd.R_drew)); exact Kd.R_mono HO_8.out (fun _ hk => ⟨⟨hk.1.1.2, hk.2⟩, hk.1.2⟩)) hg hat); have n2_ := aM (Kd.R_after (ok := (fun k_ => some k_ ≠ (u8 : Value).ownBlock ∧ some k_ ≠ (.slice Ao42 t478.length co42 : Value).ownBlock)) (by (with_reducible repeat (first | apply Kd.R_alloc | apply Kd.R_drewN | apply Kd.R_drew)); exact Kd.R_mono HO474.out (fun _ hk => ⟨⟨hk.1.1.2, hk.2⟩, hk.1.2⟩)) hg hat); have n3_ := aM (Kd.R_after (ok := (fun k_ => some k_ ≠ (u8 : Value).ownBlock ∧ some k_ ≠ (v473 : Value).ownBlock)) (by (with_reducible repeat (first | apply Kd.R_alloc | apply Kd.R_drewN | apply Kd.R_drew)); exact Kd.R_mono HO480.out (fun _ hk => ⟨⟨hk.1.1.2, hk.1.2⟩, hk.2⟩)) hg hat); have n4_ := aM (hb); have n5_ := aM (ho); clear HO_7; clear HO_8; clear HO474; clear HO480; clear HB; clear HO477; have HO_7 := n0_; have HO_8 := n1_; have HO474 := n2_; have HO480 := n3_; have HB := n4_; have HO483 := n5_; clear n0_ n1_ n2_ n3_ n4_ n5_; clear ho hb hg hat) | ((with_reducible refine gate_dst (N := 89) rfl ?_); refine Kd.R_lit (Kd.int .u8) _ 5 ?hg (N := 89) ?hd (xs := ([(a1) % 256, (x9_2) % 256] : List Int)) (inner := [.int .u8 ((a1) % 256), .int .u8 ((x9_2) % 256)]) (ok := fun _ => True) (okp := fun _ => True) ?hr ?hp (fun _ hk => hk) trivial (Below.refl _ _) (Nat.le_refl _) (by simp) ?_; (case hd => rfl); (case hg => rfl); (case hr => first | (go_simp; done) | (go_simp; rfl)); (case hp => exact (Reps.one (show Kd.M (Kd.int .u8) _ _ _ ((a1) % 256) [.int .u8 ((a1) % 256)] from rfl) (Reps.one (show Kd.M (Kd.int .u8) _ _ _ ((x9_2) % 256) [.int .u8 ((x9_2) % 256)] from rfl) (Reps.none _ _)))); intro v485 w43 ho44 hb hg_ hnew_; clear hg_ hnew_; (first | rw [← Ny484.out] at ho44 | (simp only [Int.reduceToNat] at ho44; rw [← Ny484.out] at ho44)); have n0_ := aM (Kd.R_below (xR HO_7.out) hb); have n1_ := aM (Kd.R_elder' (xR HO_8.out) (Kd.R_base ho44) hb); have n2_ := aM (Kd.R_elder' (xR HO474.out) (Kd.R_base ho44) hb); have n3_ := aM (Kd.R_elder' (xR HO480.out) (Kd.R_base ho44) hb); have n4_ := aM (Kd.R_elder' (xR HO483.out) (Kd.R_base ho44) hb); have n5_ := aM (Kd.R_lower (Kd.R_new' (Kd.R_new' (Kd.R_new' (Kd.R_new' ho44 (Kd.R_lt (xR HO_8.out))) (Kd.R_lt (xR HO474.out))) (Kd.R_lt (xR HO480.out))) (Kd.R_lt (xR HO483.out))) (below_size (xB HB.out))); have n6_ := aM (below_step (xB HB.out) hb); clear HO_7; clear HO_8; clear HO474; clear HO480; clear HO483; clear HB; have HO_7 := n0_; have HO_8 := n1_; have HO474 := n2_; have HO480 := n3_; have HO483 := n4_; have HO486 := n5_; have HB := n6_; clear n0_ n1_ n2_ n3_ n4_ n5_ n6_; clear hb ho44; obtain ⟨Ao46, co46, eo46⟩ := Kd.R_slice HO486.out; subst eo46) | ((with_reducible refine gate_builtin (b := .append) (xs := #[.tmp 84, .tmp 89]) rfl ?_); at_builtin; refine Kd.R_append_rows (Kd.int .u8) (w0 := w) w.heap.size rfl (.tmp 84) (.tmp 89) 22 5 (.int .u8 0) 1 rfl Try.underlying22 info5 rfl (by decide) (by omega) v482 y481 y484 _ _ _ (fun k_ => some k_ ≠ (u8 : Value).ownBlock ∧ some k_ ≠ (v473 : Value).ownBlock ∧ some k_ ≠ (.slice Ao42 t478.length co42 : Value).ownBlock ∧ some k_ ≠ (.slice Ao46 y484.length co46 : Value).ownBlock) (fun _ => False) rfl rfl ?aO ?aR (fun _ _ h => h) (fun _ h => h.elim) ?aF ?aB ?aS ?aL ?_; (case aR => exact xC ((Kd.R_reads' HO486.out).2.2)); (case aB => exact (xB HB.out)); (case aF => exact (fun k_ hk => ⟨Kd.fresh' (Kd.R_lt (xR HO_8.out)) k_ hk, Kd.fresh' (Kd.R_lt (xR HO474.out)) k_ hk, Kd.fresh' (Kd.R_lt (xR HO480.out)) k_ hk, Kd.fresh' (Kd.R_lt (xR HO486.out)) k_ hk⟩)); (case aO => exact (by (with_reducible repeat (first | apply Kd.R_alloc | apply Kd.R_drewN | apply Kd.R_drew)); exact Kd.R_mono HO483.out (fun _ hk => ⟨hk.1.1, ⟨hk.1.2.1, ⟨hk.1.2.2, hk.2⟩⟩⟩))); (case aS => exact (below_size (xB HB.out))); (case aL => have := LMc33.out; omega); intro v488 w45 ho hb hg hat; rw [← Ny487.out] at ho; have n0_ := aM (Kd.R_over' (xR HO_7.out) (Kd.R_typed (xR HO483.out)) (by decide) hg); have n1_ := aM (Kd.R_after (ok := (fun k_ => some k_ ≠ (v473 : Value).ownBlock ∧ some k_ ≠ (.slice Ao42 t478.length co42 : Value).ownBlock ∧ some k_ ≠ (.slice Ao46 y484.length co46 : Value).ownBlock)) (by (with_reducible repeat (first | apply Kd.R_alloc | apply Kd.R_drewN | apply Kd.R_drew)); exact Kd.R_mono HO_8.out (fun _ hk => ⟨⟨hk.1.1.1, ⟨hk.1.1.2, hk.2⟩⟩, hk.1.2⟩)) hg hat); have n2_ := aM (Kd.R_after (ok := (fun k_ => some k_ ≠ (u8 : Value).ownBlock ∧ some k_ ≠ (.slice Ao42 t478.length co42 : Value).ownBlock ∧ some k_ ≠ (.slice Ao46 y484.length co46 : Value).ownBlock)) (by (with_reducible repeat (first | apply Kd.R_alloc | apply Kd.R_drewN | apply Kd.R_drew)); exact Kd.R_mono HO474.out (fun _ hk => ⟨⟨hk.1.1.1, ⟨hk.1.1.2, hk.2⟩⟩, hk.1.2⟩)) hg hat); have n3_ := aM (Kd.R_after (ok := (fun k_ => some k_ ≠ (u8 : Value).ownBlock ∧ some k_ ≠ (v473 : Value).ownBlock ∧ some k_ ≠ (.slice Ao46 y484.length co46 : Value).ownBlock)) (by (with_reducible repeat (first | apply Kd.R_alloc | apply Kd.R_drewN | apply Kd.R_drew)); exact Kd.R_mono HO480.out (fun _ hk => ⟨⟨hk.1.1.1, ⟨hk.1.1.2, hk.2⟩⟩, hk.1.2⟩)) hg hat); have n4_ := aM (Kd.R_after (ok := (fun k_ => some k_ ≠ (u8 : Value).ownBlock ∧ some k_ ≠ (v473 : Value).ownBlock ∧ some k_ ≠ (.slice Ao42 t478.length co42 : Value).ownBlock)) (by (with_reducible repeat (first | apply Kd.R_alloc | apply Kd.R_drewN | apply Kd.R_drew)); exact Kd.R_mono HO486.out (fun _ hk => ⟨⟨hk.1.1.1.2, ⟨hk.1.1.2, hk.1.2⟩⟩, hk.2⟩)) hg hat); have n5_ := aM (hb); have n6_ := aM (ho); clear HO_7; clear HO_8; clear HO474; clear HO480; clear HO486; clear HB; clear HO483; have HO_7 := n0_; have HO_8 := n1_; have HO474 := n2_; have HO480 := n3_; have HO486 := n4_; have HB := n5_; have HO489 := n6_; clear n0_ n1_ n2_ n3_ n4_ n5_ n6_; clear ho hb hg hat; obtain ⟨Ao48, co48, eo48⟩ := Kd.R_slice HO474.out; subst eo48) | ((with_reducible refine gate_builtin (b := .append) (xs := #[.tmp 90, .tmp 91]) rfl ?_); at_builtin; refine Kd.R_append_rows (Kd.int .u8) (w0 := w) w.heap.size rfl (.tmp 90) (.tmp 91) 22 5 (.int .u8 0) 1 rfl Try.underlying22 info5 rfl (by decide) (by omega) v488 y487 t471 _ _ _ (fun k_ => some k_ ≠ (u8 : Value).ownBlock ∧ some k_ ≠ (.slice Ao48 t471.length co48 : Value).ownBlock ∧ some k_ ≠ (.slice Ao42 t478.length co42 : Value).ownBlock ∧ some k_ ≠ (.slice Ao46 y484.length co46 : Value).ownBlock) (fun _ => False) rfl rfl ?aO ?aR (fun _ _ h => h) (fun _ h => h.elim) ?aF ?aB ?aS ?aL ?_; (case aR => exact xC ((Kd.R_reads' HO474.out).2.2)); (case aB => exact (xB HB.out)); (case aF => exact (fun k_ hk => ⟨Kd.fresh' (Kd.R_lt (xR HO_8.out)) k_ hk, Kd.fresh' (Kd.R_lt (xR HO474.out)) k_ hk, Kd.fresh' (Kd.R_lt (xR HO480.out)) k_ hk, Kd.fresh' (Kd.R_lt (xR HO486.out)) k_ hk⟩)); (case aO => exact (xR HO489.out)); (case aS => exact (below_size (xB HB.out))); (case aL => have := LMc34.out; omega); intro v491 w47 ho hb hg hat; rw [← Ny490.out] at ho; have n0_ := aM (Kd.R_over' (xR HO_7.out) (Kd.R_typed (xR HO489.out)) (by decide) hg); have n1_ := aM (Kd.R_after (ok := (fun k_ => some k_ ≠ (.slice Ao48 t471.length co48 : Value).ownBlock ∧ some k_ ≠ (.slice Ao42 t478.length co42 : Value).ownBlock ∧ some k_ ≠ (.slice Ao46 y484.length co46 : Value).ownBlock)) (xR HO_8.out) hg hat); have n2_ := aM (Kd.R_after (ok := (fun k_ => some k_ ≠ (u8 : Value).ownBlock ∧ some k_ ≠ (.slice Ao42 t478.length co42 : Value).ownBlock ∧ some k_ ≠ (.slice Ao46 y484.length co46 : Value).ownBlock)) (xR HO474.out) hg hat); have n3_ := aM (Kd.R_after (ok := (fun k_ => some k_ ≠ (u8 : Value).ownBlock ∧ some k_ ≠ (.slice Ao48 t471.length co48 : Value).ownBlock ∧ some k_ ≠ (.slice Ao46 y484.length co46 : Value).ownBlock)) (xR HO480.out) hg hat); have n4_ := aM (Kd.R_after (ok := (fun k_ => some k_ ≠ (u8 : Value).ownBlock ∧ some k_ ≠ (.slice Ao48 t471.length co48 : Value).ownBlock ∧ some k_ ≠ (.slice Ao42 t478.length co42 : Value).ownBlock)) (xR HO486.out) hg hat); have n5_ := aM (hb); have n6_ := aM (ho); clear HO_7; clear HO_8; clear HO474; clear HO480; clear HO486; clear HB; clear HO489; have HO_7 := n0_; have HO_8 := n1_; have HO474 := n2_; have HO480 := n3_; have HO486 := n4_; have HB := n5_; have HO492 := n6_; clear n0_ n1_ n2_ n3_ n4_ n5_ n6_; clear ho hb hg hat; obtain ⟨Ao50, co50, eo50⟩ := Kd.R_slice HO_8.out; subst eo50) | ((with_reducible refine gate_builtin (b := .append) (xs := #[.tmp 92, .tmp 93]) rfl ?_); at_builtin; refine Kd.R_append_rows (Kd.int .u8) (w0 := w) w.heap.size rfl (.tmp 92) (.tmp 93) 22 5 (.int .u8 0) 1 rfl Try.underlying22 info5 rfl (by decide) (by omega) v491 y490 x8_2 _ _ _ (fun k_ => some k_ ≠ (.slice Ao50 x8_2.length co50 : Value).ownBlock ∧ some k_ ≠ (.slice Ao48 t471.length co48 : Value).ownBlock ∧ some k_ ≠ (.slice Ao42 t478.length co42 : Value).ownBlock ∧ some k_ ≠ (.slice Ao46 y484.length co46 : Value).ownBlock) (fun _ => False) rfl rfl ?aO ?aR (fun _ _ h => h) (fun _ h => h.elim) ?aF ?aB ?aS ?aL ?_; (case aR => exact xC ((Kd.R_reads' HO_8.out).2.2)); (case aB => exact (xB HB.out)); (case aF => exact (fun k_ hk => ⟨Kd.fresh' (Kd.R_lt (xR HO_8.out)) k_ hk, Kd.fresh' (Kd.R_lt (xR HO474.out)) k_ hk, Kd.fresh' (Kd.R_lt (xR HO480.out)) k_ hk, Kd.fresh' (Kd.R_lt (xR HO486.out)) k_ hk⟩)); (case aO => exact (xR HO492.out)); (case aS => exact (below_size (xB HB.out))); (case aL => have := LMc35.out; omega); intro v494 w49 ho hb hg hat; rw [← Ny493.out] at ho; have n0_ := aM (Kd.R_over' (xR HO_7.out) (Kd.R_typed (xR HO492.out)) (by decide) hg); have n1_ := aM (Kd.R_after (ok := (fun k_ => some k_ ≠ (.slice Ao48 t471.length co48 : Value).ownBlock ∧ some k_ ≠ (.slice Ao42 t478.length co42 : Value).ownBlock ∧ some k_ ≠ (.slice Ao46 y484.length co46 : Value).ownBlock)) (xR HO_8.out) hg hat); have n2_ := aM (Kd.R_after (ok := (fun k_ => some k_ ≠ (.slice Ao50 x8_2.length co50 : Value).ownBlock ∧ some k_ ≠ (.slice Ao42 t478.length co42 : Value).ownBlock ∧ some k_ ≠ (.slice Ao46 y484.length co46 : Value).ownBlock)) (xR HO474.out) hg hat); have n3_ := aM (Kd.R_after (ok := (fun k_ => some k_ ≠ (.slice Ao50 x8_2.length co50 : Value).ownBlock ∧ some k_ ≠ (.slice Ao48 t471.length co48 : Value).ownBlock ∧ some k_ ≠ (.slice Ao46 y484.length co46 : Value).ownBlock)) (xR HO480.out) hg hat); have n4_ := aM (Kd.R_after (ok := (fun k_ => some k_ ≠ (.slice Ao50 x8_2.length co50 : Value).ownBlock ∧ some k_ ≠ (.slice Ao48 t471.length co48 : Value).ownBlock ∧ some k_ ≠ (.slice Ao42 t478.length co42 : Value).ownBlock)) (xR HO486.out) hg hat); have n5_ := aM (hb); have n6_ := aM (ho); clear HO_7; clear HO_8; clear HO474; clear HO480; clear HO486; clear HB; clear HO492; have HO_7 := n0_; have HO_8 := n1_; have HO474 := n2_; have HO480 := n3_; have HO486 := n4_; have HB := n5_; have HO495 := n6_; clear n0_ n1_ n2_ n3_ n4_ n5_ n6_; clear ho hb hg hat))
            go_ret
            exact ⟨_, by first | rfl | (simp [errW_none, errW_some] <;> rfl) | (simp [*, errW_none, errW_some] <;> rfl), by (with_reducible repeat (first | apply Kd.R_alloc | apply Kd.R_drewN | apply Kd.R_drew)); exact Kd.R_mono HO495.out (fun _ hk => trivial), xB HB.out⟩
           ·
            rw [if_neg c35] at H
            exact absurd H (by simp)
          ·
           rw [if_neg c34] at H
           exact absurd H (by simp)
         ·
          rw [if_neg c33] at H
          exact absurd H (by simp)
        ·
         rw [if_neg c32] at H
         exact absurd H (by simp)
 ·
  rw [if_neg c3] at H
  exact absurd H (by simp)
def r04_Block.l0 : Nat → List Int → List Int → Int → Option (List Int)
 | 0, _, _, _ => none
 | k + 1, x0, x3, x4 => if x4 ≤ 64 then ((r04_By.f k x0 x4).bind fun t515 => (if (t515.length : Int) < (x3.length : Int) then (r04_Block.l0 k x0 t515 (wrap64 (x4 + 1))) else (r04_Block.l0 k x0 x3 (wrap64 (x4 + 1))))) else (some x3)
def r04_Block.f (k : Nat) (l0 : List Int) : Option (List Int) := (r04_By.f k l0 0).bind fun t512 => (r04_Block.l0 k l0 t512 1)
set_option maxHeartbeats 8000000 in
set_option maxRecDepth 100000 in
theorem r04_Block.calls (k : Nat) (A0 : Option Addr) (c0 : Nat) (l0 : List Int) (r : List Int) (w : World) (hr0 : Kd.C (Kd.int .u64) w A0 l0.length l0) (hc0 : l0.length ≤ c0) (h : r04_Block.f k l0 = some r) :
  Calls Try.prog 57 #[.slice A0 l0.length c0] w fun e w' => ∃ v0_ : Value, e = .returned (v0_) ∧ Kd.R (Kd.int .u8) 5 w' w.heap.size (fun _ => True) v0_ r ∧ Below w.heap.size w w' := by
 have HR0 := aM hr0
 have HC0 := aM hc0
 clear hr0 hc0
 have HB := aM (Below.refl w.heap.size w)
 have H : ((r04_By.f k l0 0).bind fun t512 => (r04_Block.l0 k l0 t512 1)) = some r := h
 clear h
 replace H := Option.bind_eq_some_iff.mp H
 obtain ⟨t512, A20, H⟩ := H
 replace H : (r04_Block.l0 k l0 t512 1) = some r := H
 have A2 := aM A20
 clear A20
 have H' := aM H
 clear H
 go_enter Try.func57, Try.ntmps57
 go_wp2_with (first | ((with_reducible refine gate_callee (f := 83) rfl ?_); refine goesL_ (some 7) rfl rfl Try.func83 (by kernel_rfl) rfl #[.slice A0 l0.length c0, .int .i64 0] rfl (by (try simp only [List.map_toArray, List.map_cons, List.map_nil]); first | done | rfl | (simp only [List.length_drop, List.length_take]; rfl)) ?_; (with_reducible refine (r04_By.calls k _ _ l0 0 t512 _ ?side1 ?side2 A2.out).mono ?_); (case side1 => exact xC HR0.out); (case side2 => exact HC0.out); rintro e w3 ⟨v513, rfl, ho0, hb⟩; refine ⟨_, rfl, ?_⟩; have n0_ := aM (Kd.R_lower ho0 (below_size (xB HB.out))); have n1_ := aM (below_step (xB HB.out) hb); clear HB; have HO514 := n0_; have HB := n1_; clear n0_ n1_; (try clear hb); (try clear hb2); (try clear hk); (try clear hi); (try clear ho0)))
 go_loopg [3, 4] k (fun kq v3 v4 w' => ∃ (x3_1 : List Int) (x4_1 : Int), v4 = .int .i64 x4_1 ∧ Aside0 (r04_Block.l0 kq l0 x3_1 x4_1 = some r) ∧ Aside0 (kq ≤ k) ∧ Aside0 (Kd.R (Kd.int .u8) 5 w' w.heap.size (fun _ => True) v3 x3_1) ∧ Aside0 (Below w.heap.size w w'))
 case atStart => exact ⟨(t512), (1), (by first | rfl | (simp; done) | (simp [*]; done)), H', ⟨Nat.le_refl _⟩, ⟨by (with_reducible repeat (first | apply Kd.R_alloc | apply Kd.R_drewN | apply Kd.R_drew)); exact HO514.out⟩, ⟨xB HB.out⟩⟩
 case round =>
  clear H'
  try clear p2
  obtain ⟨x3_1, x4_1, rfl, HA, HK1, HO_3, HB⟩ := hrel
  cases gk with
  | zero => exact absurd HA.out (by simp [r04_Block.l0])
  | succ k1 =>
   have H := HA.out
   clear HA
   simp only [r04_Block.l0] at H
   by_cases c4 : x4_1 ≤ 64
   ·
    rw [if_pos c4] at H
    have c4b0 : decide (x4_1 ≤ 64) = true := decide_eq_true c4
    clear c4
    replace H := Option.bind_eq_some_iff.mp H
    obtain ⟨t515, A50, H⟩ := H
    replace H : (if (t515.length : Int) < (x3_1.length : Int) then (r04_Block.l0 k1 l0 t515 (wrap64 (x4_1 + 1))) else (r04_Block.l0 k1 l0 x3_1 (wrap64 (x4_1 + 1)))) = some r := H
    have A5 := aM A50
    clear A50
    by_cases c6 : (t515.length : Int) < (x3_1.length : Int)
    ·
     rw [if_pos c6] at H
     have c6b0 : decide ((t515.length : Int) < (x3_1.length : Int)) = true := decide_eq_true c6
     have c6b1 : decide (t515.length < x3_1.length) = true := decide_eq_true (Int.ofNat_lt.mp c6)
     clear c6
     have H' := aM H
     clear H
     go_wp2_with (first | ((with_reducible refine gate_callee (f := 83) rfl ?_); refine goesL_ (some 14) rfl rfl Try.func83 (by kernel_rfl) rfl #[.slice A0 l0.length c0, .int .i64 x4_1] rfl (by (try simp only [List.map_toArray, List.map_cons, List.map_nil]); first | done | rfl | (simp only [List.length_drop, List.length_take]; rfl)) ?_; (with_reducible refine (r04_By.calls k1 _ _ l0 x4_1 t515 _ ?side1 ?side2 A5.out).mono ?_); (case side1 => exact xC (Kd.C_below HR0.out HB.out)); (case side2 => exact HC0.out); rintro e w7 ⟨v516, rfl, ho0, hb⟩; refine ⟨_, rfl, ?_⟩; have n0_ := aM (Kd.R_elder' (xR HO_3.out) (Kd.R_base ho0) hb); have n1_ := aM (Kd.R_lower (Kd.R_new' ho0 (Kd.R_lt (xR HO_3.out))) (below_size (xB HB.out))); have n2_ := aM (below_step (xB HB.out) hb); clear HO_3; clear HB; have HO_3 := n0_; have HO517 := n1_; have HB := n2_; clear n0_ n1_ n2_; (try clear hb); (try clear hb2); (try clear hk); (try clear hi); (try clear ho0); obtain ⟨Ao8, co8, eo8⟩ := Kd.R_slice HO517.out; subst eo8; obtain ⟨Ao9, co9, eo9⟩ := Kd.R_slice HO_3.out; subst eo9))
     go_roundg k1
     case measure => have := HK1.out; omega
     case rel => exact ⟨(t515), (wrap64 (x4_1 + 1)), (by first | rfl | (simp; done) | (simp [*]; done)), H', ⟨by have := HK1.out; omega⟩, ⟨by (with_reducible repeat (first | apply Kd.R_alloc | apply Kd.R_drewN | apply Kd.R_drew)); exact Kd.R_mono HO517.out (fun _ hk => trivial)⟩, ⟨xB HB.out⟩⟩
    ·
     rw [if_neg c6] at H
     have c6b0 : decide ((t515.length : Int) < (x3_1.length : Int)) = false := decide_eq_false c6
     have c6b1 : decide (t515.length < x3_1.length) = false := decide_eq_false (fun h => c6 (Int.ofNat_lt.mpr h))
     clear c6
     have H' := aM H
     clear H
     go_wp2_with (first | ((with_reducible refine gate_callee (f := 83) rfl ?_); refine goesL_ (some 14) rfl rfl Try.func83 (by kernel_rfl) rfl #[.slice A0 l0.length c0, .int .i64 x4_1] rfl (by (try simp only [List.map_toArray, List.map_cons, List.map_nil]); first | done | rfl | (simp only [List.length_drop, List.length_take]; rfl)) ?_; (with_reducible refine (r04_By.calls k1 _ _ l0 x4_1 t515 _ ?side1 ?side2 A5.out).mono ?_); (case side1 => exact xC (Kd.C_below HR0.out HB.out)); (case side2 => exact HC0.out); rintro e w10 ⟨v516, rfl, ho0, hb⟩; refine ⟨_, rfl, ?_⟩; have n0_ := aM (Kd.R_elder' (xR HO_3.out) (Kd.R_base ho0) hb); have n1_ := aM (Kd.R_lower (Kd.R_new' ho0 (Kd.R_lt (xR HO_3.out))) (below_size (xB HB.out))); have n2_ := aM (below_step (xB HB.out) hb); clear HO_3; clear HB; have HO_3 := n0_; have HO517 := n1_; have HB := n2_; clear n0_ n1_ n2_; (try clear hb); (try clear hb2); (try clear hk); (try clear hi); (try clear ho0); obtain ⟨Ao11, co11, eo11⟩ := Kd.R_slice HO517.out; subst eo11; obtain ⟨Ao12, co12, eo12⟩ := Kd.R_slice HO_3.out; subst eo12))
     go_roundg k1
     case measure => have := HK1.out; omega
     case rel => exact ⟨(x3_1), (wrap64 (x4_1 + 1)), (by first | rfl | (simp; done) | (simp [*]; done)), H', ⟨by have := HK1.out; omega⟩, ⟨by (with_reducible repeat (first | apply Kd.R_alloc | apply Kd.R_drewN | apply Kd.R_drew)); exact Kd.R_mono HO_3.out (fun _ hk => trivial)⟩, ⟨xB HB.out⟩⟩
   ·
    rw [if_neg c4] at H
    have c4b0 : decide (x4_1 ≤ 64) = false := decide_eq_false c4
    clear c4
    obtain rfl := Option.some.inj H
    go_wp2
    go_ret
    exact ⟨_, by first | rfl | (simp [errW_none, errW_some] <;> rfl) | (simp [*, errW_none, errW_some] <;> rfl), by (with_reducible repeat (first | apply Kd.R_alloc | apply Kd.R_drewN | apply Kd.R_drew)); exact HO_3.out, xB HB.out⟩
def r04_List.l0 : Nat → List Int → List Int → Int → Option (List Int)
 | 0, _, _, _ => none
 | k + 1, x0, x3, x4 => if x4 < (x0.length : Int) then (if 0 ≤ x4 then (if x4 ≤ (mn (x0.length : Int) (wrap64 (x4 + 32))) then (if (mn (x0.length : Int) (wrap64 (x4 + 32))) ≤ (x0.length : Int) then ((r04_Block.f k ((x0.take ((mn (x0.length : Int) (wrap64 (x4 + 32))) : Int).toNat).drop (x4 : Int).toNat)).bind fun t525 => (if x3.length + t525.length < 140737488355328 then (r04_List.l0 k x0 (x3 ++ t525) (wrap64 (x4 + 32))) else (none))) else (none)) else (none)) else (none)) else (some x3)
def r04_List.f (k : Nat) (l0 : List Int) : Option (List Int) := (r02_Bytes.f k (IntKind.u64.wrap ((l0.length : Int)))).bind fun t518 => (r04_List.l0 k l0 t518 0)
set_option maxHeartbeats 8000000 in
set_option maxRecDepth 100000 in
theorem r04_List.calls (k : Nat) (A0 : Option Addr) (c0 : Nat) (l0 : List Int) (r : List Int) (w : World) (hr0 : Kd.C (Kd.int .u64) w A0 l0.length l0) (hc0 : l0.length ≤ c0) (h : r04_List.f k l0 = some r) :
  Calls Try.prog 29 #[.slice A0 l0.length c0] w fun e w' => ∃ v0_ : Value, e = .returned (v0_) ∧ Kd.R (Kd.int .u8) 5 w' w.heap.size (fun _ => True) v0_ r ∧ Below w.heap.size w w' := by
 have HR0 := aM hr0
 have HC0 := aM hc0
 clear hr0 hc0
 have HB := aM (Below.refl w.heap.size w)
 have H : ((r02_Bytes.f k (IntKind.u64.wrap ((l0.length : Int)))).bind fun t518 => (r04_List.l0 k l0 t518 0)) = some r := h
 clear h
 replace H := Option.bind_eq_some_iff.mp H
 obtain ⟨t518, A20, H⟩ := H
 replace H : (r04_List.l0 k l0 t518 0) = some r := H
 have A2 := aM A20
 clear A20
 have H' := aM H
 clear H
 go_enter Try.func29, Try.ntmps29
 go_wp2_with (first | ((with_reducible refine gate_callee (f := 56) rfl ?_); refine goesL_ (some 8) rfl rfl Try.func56 (by kernel_rfl) rfl #[.int .u64 (IntKind.u64.wrap ((l0.length : Int)))] rfl (by (try simp only [List.map_toArray, List.map_cons, List.map_nil]); first | done | rfl | (simp only [List.length_drop, List.length_take]; rfl)) ?_; (with_reducible refine (r02_Bytes.calls k (IntKind.u64.wrap ((l0.length : Int))) t518 _ A2.out).mono ?_); rintro e w3 ⟨v519, rfl, ho0, hb⟩; refine ⟨_, rfl, ?_⟩; have n0_ := aM (Kd.R_lower ho0 (below_size (xB HB.out))); have n1_ := aM (below_step (xB HB.out) hb); clear HB; have HO520 := n0_; have HB := n1_; clear n0_ n1_; (try clear hb); (try clear hb2); (try clear hk); (try clear hi); (try clear ho0)))
 go_loopg [3, 4] k (fun kq v3 v4 w' => ∃ (x3_1 : List Int) (x4_1 : Int), v4 = .int .i64 x4_1 ∧ Aside0 (r04_List.l0 kq l0 x3_1 x4_1 = some r) ∧ Aside0 (kq ≤ k) ∧ Aside0 (Kd.R (Kd.int .u8) 5 w' w.heap.size (fun _ => True) v3 x3_1) ∧ Aside0 (Below w.heap.size w w'))
 case atStart => exact ⟨(t518), (0), (by first | rfl | (simp; done) | (simp [*]; done)), H', ⟨Nat.le_refl _⟩, ⟨by (with_reducible repeat (first | apply Kd.R_alloc | apply Kd.R_drewN | apply Kd.R_drew)); exact HO520.out⟩, ⟨xB HB.out⟩⟩
 case round =>
  clear H'
  try clear c2
  try clear p2
  obtain ⟨x3_1, x4_1, rfl, HA, HK1, HO_3, HB⟩ := hrel
  cases gk with
  | zero => exact absurd HA.out (by simp [r04_List.l0])
  | succ k1 =>
   have H := HA.out
   clear HA
   simp only [r04_List.l0] at H
   by_cases c4 : x4_1 < (l0.length : Int)
   ·
    rw [if_pos c4] at H
    have c4b0 : decide (x4_1 < (l0.length : Int)) = true := decide_eq_true c4
    clear c4
    obtain ⟨ji5, hji5⟩ : ∃ j_ : Int, (mn (l0.length : Int) (wrap64 (x4_1 + 32))) = j_ := ⟨_, rfl⟩
    replace H : (if 0 ≤ x4_1 then (if x4_1 ≤ (ji5) then (if (ji5) ≤ (l0.length : Int) then ((r04_Block.f k1 ((l0.take ((ji5) : Int).toNat).drop (x4_1 : Int).toNat)).bind fun t525 => (if x3_1.length + t525.length < 140737488355328 then (r04_List.l0 k1 l0 (x3_1 ++ t525) (wrap64 (x4_1 + 32))) else (none))) else (none)) else (none)) else (none)) = some r := by first | (rw [hji5] at H; exact H) | (simp only [hji5] at H ⊢; exact H)
    have hji5_ : (if (wrap64 (x4_1 + 32)) < (l0.length : Int) then (wrap64 (x4_1 + 32)) else (l0.length : Int)) = ji5 := hji5
    by_cases c6 : 0 ≤ x4_1
    ·
     rw [if_pos c6] at H
     have c6b0 := eq_true c6
     have c6b1 : decide (0 ≤ x4_1) = true := decide_eq_true c6
     clear c6
     by_cases c7 : x4_1 ≤ (ji5)
     ·
      rw [if_pos c7] at H
      have c7b0 := eq_true c7
      have c7b1 : decide (x4_1 ≤ (ji5)) = true := decide_eq_true c7
      clear c7
      by_cases c8 : (ji5) ≤ (l0.length : Int)
      ·
       rw [if_pos c8] at H
       have c8b0 := eq_true c8
       have c8b1 : decide ((ji5) ≤ (l0.length : Int)) = true := decide_eq_true c8
       clear c8
       obtain ⟨y521, hy521⟩ : ∃ y_ : List Int, y_ = ((l0.take ((ji5) : Int).toNat).drop (x4_1 : Int).toNat) := ⟨_, rfl⟩
       replace H : ((r04_Block.f k1 y521).bind fun t525 => (if x3_1.length + t525.length < 140737488355328 then (r04_List.l0 k1 l0 (x3_1 ++ t525) (wrap64 (x4_1 + 32))) else (none))) = some r := by first | (rw [hy521]; with_reducible exact H) | (have H2_ := (Option.bind_some _ _).symm.trans H; rw [hy521]; with_reducible exact H2_) | (have H2_ := (Option.bind_some _ _).symm.trans H; with_reducible exact H2_) | with_reducible exact H | (rw [hy521]; exact H) | exact H
       have Ny521 := aM hy521
       clear hy521
       replace H := Option.bind_eq_some_iff.mp H
       obtain ⟨t525, A90, H⟩ := H
       replace H : (if x3_1.length + t525.length < 140737488355328 then (r04_List.l0 k1 l0 (x3_1 ++ t525) (wrap64 (x4_1 + 32))) else (none)) = some r := H
       have A9 := aM A90
       clear A90
       by_cases c10 : x3_1.length + t525.length < 140737488355328
       ·
        rw [if_pos c10] at H
        have LMc10 := aM c10
        clear c10
        obtain ⟨y528, hy528⟩ : ∃ y_ : List Int, y_ = (x3_1 ++ t525) := ⟨_, rfl⟩
        replace H : (r04_List.l0 k1 l0 y528 (wrap64 (x4_1 + 32))) = some r := by first | (rw [hy528]; with_reducible exact H) | (have H2_ := (Option.bind_some _ _).symm.trans H; rw [hy528]; with_reducible exact H2_) | (have H2_ := (Option.bind_some _ _).symm.trans H; with_reducible exact H2_) | with_reducible exact H | (rw [hy528]; exact H) | exact H
        have Ny528 := aM hy528
        clear hy528
        have H' := aM H
        clear H
        have q11 : ((ji5) : Int) ≤ ((l0.length : Int) : Int) := of_decide_eq_true (by first | (with_reducible assumption) | assumption)
        obtain ⟨i011, hi011, _, hsz11, _⟩ := info_parts info40
        have hroom11 : l0.length ≤ c0 := HC0.out
        have hC11 : Kd.C (Kd.int .u64) _ A0 l0.length l0 := HR0.out
        have ql11 : (x4_1 : Int) ≤ ((ji5) : Int) := of_decide_eq_true (by first | (with_reducible assumption) | assumption)
        have q011 : (0 : Int) ≤ (x4_1 : Int) := of_decide_eq_true (by first | (with_reducible assumption) | assumption)
        have hcut11 := cut_mid (P := Try.prog) 39 40 .i64 .i64 Try.underlying39 hi011 1 hsz11 A0 l0.length c0 x4_1 (ji5) q011 ql11 q11 hroom11
        have hr11 := Kd.C_mid (lo := (x4_1 : Int).toNat) (hi := ((ji5) : Int).toNat) (c := c0) hC11 (by omega) (by omega) hroom11
        obtain ⟨A11, hA11⟩ : ∃ A_z, A_z = (if c0 = (x4_1 : Int).toNat then A0 else (A0 : Option Addr).map (·.add ((x4_1 : Int).toNat * 1))) := ⟨_, rfl⟩
        obtain ⟨c11, hc11⟩ : ∃ c_z, c_z = c0 - (x4_1 : Int).toNat := ⟨_, rfl⟩
        have hy11 : y521.length = ((ji5) : Int).toNat - (x4_1 : Int).toNat := (by rw [Ny521.out, List.length_drop, List.length_take] <;> omega)
        rw [show ((l0).take ((ji5) : Int).toNat).drop (x4_1 : Int).toNat = y521 from Ny521.out.symm] at hr11
        replace hr11 : Kd.C (Kd.int .u64) _ A11 y521.length y521 := (by rw [hA11]; exact hr11)
        rw [← hy11, ← hA11, ← hc11] at hcut11
        have HR524 := aM hr11
        have HC524 := aM (show y521.length ≤ c11 from by rw [hy11, hc11]; exact Nat.sub_le_sub_right (Nat.le_trans (by omega) hroom11) _)
        clear hr11 hC11 hroom11 hi011 hsz11 hc11
        have KY11 := aM hy11
        have KA11 := aM hA11
        clear hy11 hA11
        replace q11 := eq_true q11
        go_wp2_with (first | ((with_reducible refine gate_callee (f := 57) rfl ?_); refine goesL_ (some 24) rfl rfl Try.func57 (by kernel_rfl) rfl #[.slice A11 y521.length c11] rfl (by (try simp only [List.map_toArray, List.map_cons, List.map_nil]); first | done | rfl | (simp only [List.length_drop, List.length_take]; rfl)) ?_; (with_reducible refine (r04_Block.calls k1 _ _ y521 t525 _ ?side1 ?side2 A9.out).mono ?_); (case side1 => exact xC (Kd.C_below HR524.out HB.out)); (case side2 => exact HC524.out); rintro e w12 ⟨v526, rfl, ho0, hb⟩; refine ⟨_, rfl, ?_⟩; have n0_ := aM (Kd.R_elder' (xR HO_3.out) (Kd.R_base ho0) hb); have n1_ := aM (Kd.R_lower (Kd.R_new' ho0 (Kd.R_lt (xR HO_3.out))) (below_size (xB HB.out))); have n2_ := aM (below_step (xB HB.out) hb); clear HO_3; clear HB; have HO_3 := n0_; have HO527 := n1_; have HB := n2_; clear n0_ n1_ n2_; (try clear hb); (try clear hb2); (try clear hk); (try clear hi); (try clear ho0); obtain ⟨Ao14, co14, eo14⟩ := Kd.R_slice HO527.out; subst eo14) | ((with_reducible refine gate_builtin (b := .append) (xs := #[.tmp 15, .tmp 24]) rfl ?_); at_builtin; refine Kd.R_append_rows (Kd.int .u8) (w0 := w) w.heap.size rfl (.tmp 15) (.tmp 24) 22 5 (.int .u8 0) 1 rfl Try.underlying22 info5 rfl (by decide) (by omega) u3 x3_1 t525 _ _ _ (fun k_ => some k_ ≠ (.slice Ao14 t525.length co14 : Value).ownBlock) (fun _ => False) rfl rfl ?aO ?aR (fun _ _ h => h) (fun _ h => h.elim) ?aF ?aB ?aS ?aL ?_; (case aR => exact xC ((Kd.R_reads' HO527.out).2.2)); (case aB => exact (xB HB.out)); (case aF => exact (fun k_ hk => Kd.fresh' (Kd.R_lt (xR HO527.out)) k_ hk)); (case aO => exact (by (with_reducible repeat (first | apply Kd.R_alloc | apply Kd.R_drewN | apply Kd.R_drew)); exact Kd.R_mono HO_3.out (fun _ hk => hk.2))); (case aS => exact (below_size (xB HB.out))); (case aL => have := LMc10.out; omega); intro v529 w13 ho hb hg hat; rw [← Ny528.out] at ho; have n0_ := aM (Kd.R_after (ok := (fun _ => True)) (xR HO527.out) hg hat); have n1_ := aM (hb); have n2_ := aM (ho); clear HO527; clear HB; clear HO_3; have HO527 := n0_; have HB := n1_; have HO530 := n2_; clear n0_ n1_ n2_; clear ho hb hg hat))
        go_roundg k1
        case measure => have := HK1.out; omega
        case rel => exact ⟨(y528), (wrap64 (x4_1 + 32)), (by first | rfl | (simp; done) | (simp [*]; done)), H', ⟨by have := HK1.out; omega⟩, ⟨by (with_reducible repeat (first | apply Kd.R_alloc | apply Kd.R_drewN | apply Kd.R_drew)); exact Kd.R_mono HO530.out (fun _ hk => trivial)⟩, ⟨xB HB.out⟩⟩
       ·
        rw [if_neg c10] at H
        exact absurd H (by simp)
      ·
       rw [if_neg c8] at H
       exact absurd H (by simp)
     ·
      rw [if_neg c7] at H
      exact absurd H (by simp)
    ·
     rw [if_neg c6] at H
     exact absurd H (by simp)
   ·
    rw [if_neg c4] at H
    have c4b0 : decide (x4_1 < (l0.length : Int)) = false := decide_eq_false c4
    clear c4
    obtain rfl := Option.some.inj H
    go_wp2
    go_ret
    exact ⟨_, by first | rfl | (simp [errW_none, errW_some] <;> rfl) | (simp [*, errW_none, errW_some] <;> rfl), by (with_reducible repeat (first | apply Kd.R_alloc | apply Kd.R_drewN | apply Kd.R_drew)); exact HO_3.out, xB HB.out⟩
end Go.Proofs.Ythaifibhflfpkaa.Q
end
section
namespace Go.Proofs.Ythaifibhflfpkaa.Q
open Go.RowKit Go.Proofs.YthaifibhflfpkaaW.PrintWords Go.Proofs.YthaifibhflfpkaaW.PrintLast Go.Proofs.YthaifibhflfpkaaW.PrintMore Go.Proofs.YthaifibhflfpkaaX
namespace Law
theorem clear_high (d w : Nat) (hd : d < 2 ^ 64) : Go.bits .andNot .u64 (d : Int) ((d / 2 ^ w * 2 ^ w : Nat) : Int) = ((d % 2 ^ w : Nat) : Int) := by
  have hb : d / 2 ^ w * 2 ^ w < 2 ^ 64 := Nat.lt_of_le_of_lt (Nat.div_mul_le_self d (2 ^ w)) hd
  rw [Go.u64_andNot_nat _ _ hd hb]
  congr 1
  apply Nat.eq_of_testBit_eq
  intro i
  rw [show 18446744073709551615 - d / 2 ^ w * 2 ^ w = 2 ^ 64 - (d / 2 ^ w * 2 ^ w + 1) by omega, Nat.testBit_and, Nat.testBit_two_pow_sub_succ hb, Nat.testBit_mul_two_pow, Nat.testBit_div_two_pow, Nat.testBit_mod_two_pow]
  by_cases h : i < w
  · by_cases h64 : i < 64
    · simp [h, h64, Nat.not_le.2 h]
    · have : d.testBit i = false := Nat.testBit_lt_two_pow (Nat.lt_of_lt_of_le hd (Nat.pow_le_pow_right (by decide) (by omega)))
      simp [this]
  · have e : i - w + w = i := by omega
    rw [e]
    simp [h, Nat.not_lt.1 h]
    intro h1 _
    exact h1
def minT : List Nat → Nat → Nat
  | [], m => m
  | x :: r, m => minT r (min m x)
theorem minT_le : ∀ (a : List Nat) (m : Nat), minT a m ≤ m ∧ ∀ x ∈ a, minT a m ≤ x
  | [], m => ⟨Nat.le_refl _, fun _ h => by simp at h⟩
  | x :: r, m => by
    have h := minT_le r (min m x)
    refine ⟨by rw [minT]; omega, fun y hy => ?_⟩
    rw [minT]
    rcases List.mem_cons.1 hy with rfl | hy
    · omega
    · exact h.2 y hy
def baseT (a : List Nat) : Nat := minT a (a.getD 0 0)
def lessT (a : List Nat) : List Nat := a.map fun x => x - baseT a
def tailT (w : Nat) : Nat → List Nat → List Int
  | _, [] => []
  | i, d :: r => (if 0 < d / 2 ^ w then (i : Int) % 256 :: numB (d / 2 ^ w) else []) ++ tailT w (i + 1) r
def cntT (w : Nat) (ds : List Nat) : Nat := (ds.filter fun d => decide (0 < d / 2 ^ w)).length
def lowT (w : Nat) (ds : List Nat) : List Nat := ds.map fun d => d % 2 ^ w
def sizeT (w : Nat) (ds : List Nat) : Nat := (w * ds.length + 7) / 8 + (tailT w 0 ds).length
def byT (a : List Nat) (w : Nat) : List Int := (a.length : Int) :: numB (baseT a) ++ [(w : Int), (cntT w (lessT a) : Int)] ++ (le (sumw w (lowT w (lessT a))) ((w * a.length + 7) / 8) ++ tailT w 0 (lessT a))
def bestT (ds : List Nat) : Nat → Nat → Nat → Nat
  | 0, _, b => b
  | f + 1, w, b => if sizeT w ds < sizeT b ds then bestT ds f (w + 1) w else bestT ds f (w + 1) b
def blockT (a : List Nat) : List Int := byT a (bestT (lessT a) 64 1 0)
theorem cntT_pos {w d : Nat} (r : List Nat) (h : 0 < d / 2 ^ w) : cntT w (d :: r) = cntT w r + 1 := by
  unfold cntT
  rw [List.filter_cons_of_pos (p := fun d => decide (0 < d / 2 ^ w)) (decide_eq_true h), List.length_cons]
theorem cntT_neg {w d : Nat} (r : List Nat) (h : ¬ 0 < d / 2 ^ w) : cntT w (d :: r) = cntT w r := by
  unfold cntT
  rw [List.filter_cons_of_neg (p := fun d => decide (0 < d / 2 ^ w)) (by rw [decide_eq_false h]; decide)]
theorem lessT_length (a : List Nat) : (lessT a).length = a.length := by simp [lessT]
theorem lessT_lt (a : List Nat) (h : ∀ x ∈ a, x < 2 ^ 64) : ∀ x ∈ lessT a, x < 2 ^ 64 := by
  intro x hx
  obtain ⟨y, hy, rfl⟩ := List.mem_map.1 hx
  have := h y hy
  omega
theorem lowT_lt (w : Nat) (ds : List Nat) : ∀ x ∈ lowT w ds, x < 2 ^ w := by
  intro x hx
  obtain ⟨y, hy, rfl⟩ := List.mem_map.1 hx
  exact Nat.mod_lt _ (Nat.two_pow_pos w)
theorem numB_le (d : Nat) (h : d < 2 ^ 64) : (numB d).length ≤ 9 := (numB_length d).2 h
theorem tailT_le (w : Nat) : ∀ (ds : List Nat) (i : Nat), (∀ x ∈ ds, x < 2 ^ 64) → (tailT w i ds).length ≤ 10 * ds.length
  | [], _, _ => by simp [tailT]
  | d :: r, i, h => by
    have ih := tailT_le w r (i + 1) (fun x hx => h x (by simp [hx]))
    have h1 := numB_le (d / 2 ^ w) (Nat.lt_of_le_of_lt (Nat.div_le_self _ _) (h d (by simp)))
    rw [tailT, List.length_append, List.length_cons]
    split
    · rw [List.length_cons]
      omega
    · simp
      omega
theorem byT_length (a : List Nat) (w : Nat) : (byT a w).length = 3 + (numB (baseT a)).length + sizeT w (lessT a) := by
  unfold byT sizeT
  simp only [List.length_cons, List.length_append, List.length_nil, le_length, lessT_length]
  omega
theorem refmin_loop (a : List Nat) (hl : a.length < 1000000) (x1 : Int) {R : List Int} : ∀ (r : List Nat) (i m : Nat), a.drop i = r → i ≤ a.length → Ev (fun k => r04_By.l1 k (ints a) x1 ((minT r m : Nat) : Int) [] [] 0 0) R → Ev (fun k => r04_By.l0 k (ints a) x1 (m : Int) (i : Int)) R
  | [], i, m, hd, hi, h => by
    have : a.length ≤ i := List.drop_eq_nil_iff.1 hd
    refine Ev.step (fun k => ?_) h
    rw [r04_By.l0, ints_length, if_neg (by omega), minT]
  | x :: r, i, m, hd, hi, h => by
    have hlt : i < a.length := by
      rcases Nat.lt_or_ge i a.length with h1 | h1
      · exact h1
      · rw [List.drop_eq_nil_of_le h1] at hd
        cases hd
    rw [List.drop_eq_getElem_cons hlt] at hd
    injection hd with hx hr
    have ih := refmin_loop a hl x1 r (i + 1) (min m x) hr (by omega) (by rw [minT] at h; exact h)
    refine Ev.step (fun k => ?_) ih
    have e : a.getD i 0 = x := by rw [List.getD_eq_getElem?_getD, List.getElem?_eq_getElem hlt, Option.getD_some, hx]
    have e2 : mn (m : Int) (x : Int) = ((min m x : Nat) : Int) := by unfold mn; split <;> omega
    rw [r04_By.l0, ints_length, if_pos (by omega), if_pos (by omega), rd_ints, e, e2, w64_succ i (by omega)]
theorem usub (x b : Nat) (h : b ≤ x) (hx : x < 2 ^ 64) : IntKind.u64.wrap ((x : Int) - (b : Int)) = ((x - b : Nat) : Int) := by
  rw [show (x : Int) - (b : Int) = ((x - b : Nat) : Int) by omega]
  exact wrapu _ (by omega)
theorem shl1 (w : Nat) (h : w < 64) : shl .u64 1 (w : Int) = ((2 ^ w : Nat) : Int) := by
  have p : (2 : Nat) ^ w < 2 ^ 64 := Nat.pow_lt_pow_right (by decide) h
  have := shl_nat 1 w (by omega) (by omega)
  rw [Nat.one_mul] at this
  exact this
theorem shl_z (w : Nat) (h : w < 64) : ¬ shl .u64 1 (w : Int) = 0 := by
  rw [shl1 w h]
  have := Nat.two_pow_pos w
  omega
theorem tmodN (x y : Nat) : Int.tmod (x : Int) (y : Int) = ((x % y : Nat) : Int) := by
  rw [Int.tmod_eq_emod_of_nonneg (Int.natCast_nonneg _)]
  simp
theorem ints_snoc (a : List Nat) (x : Nat) : ints (a ++ [x]) = ints a ++ [(x : Int)] := by simp [ints]
theorem refby_end (a : List Nat) (w : Nat) (hw : w ≤ 64) (hl : a.length ≤ 32) (hb : ∀ x ∈ a, x < 2 ^ 64) (i : Nat) (hi : a.length ≤ i) (hlen : 0 < a.length) : Ev (fun k => r04_By.l1 k (ints a) (w : Int) ((baseT a : Nat) : Int) (ints (lowT w (lessT a))) (tailT w 0 (lessT a)) ((cntT w (lessT a) : Nat) : Int) (i : Int)) (byT a w) := by
  have hbase : baseT a < 2 ^ 64 := by
    have h1 := (minT_le a (a.getD 0 0)).1
    have h2 := hb a[0] (List.getElem_mem hlen)
    rw [List.getD_eq_getElem?_getD, List.getElem?_eq_getElem hlen, Option.getD_some] at h1
    unfold baseT
    rw [List.getD_eq_getElem?_getD, List.getElem?_eq_getElem hlen, Option.getD_some]
    omega
  have hpk := refpack w hw (lowT w (lessT a)) (by simp [lowT, lessT]; omega) (lowT_lt w _)
  have hlow : (lowT w (lessT a)).length = a.length := by simp [lowT, lessT]
  rw [hlow] at hpk
  have hn := numB_le (baseT a) hbase
  have ht := tailT_le w (lessT a) 0 (lessT_lt a hb)
  rw [lessT_length] at ht
  have hcnt : cntT w (lessT a) ≤ a.length := by
    have := List.length_filter_le (fun d => decide (0 < d / 2 ^ w)) (lessT a)
    rw [lessT_length] at this
    exact this
  have hsz : (w * a.length + 7) / 8 ≤ 1000 := by
    have : w * a.length ≤ 64 * 32 := Nat.mul_le_mul hw hl
    omega
  have e1 : ((a.length : Int)) % 256 = (a.length : Int) := by omega
  have e2 : (w : Int) % 256 = (w : Int) := by omega
  have e3 : ((cntT w (lessT a) : Nat) : Int) % 256 = ((cntT w (lessT a) : Nat) : Int) := by omega
  refine Ev.step (fun k => by rw [r04_By.l1]) ?_
  refine Ev.neg (by rw [ints_length]; omega) (Ev.bind hpk (Ev.get rfl (Ev.bind (bytes (baseT a) hbase) (Ev.pos (by simp; omega) (Ev.get rfl (Ev.get rfl (Ev.pos (by simp; omega) (Ev.get rfl (Ev.pos (by simp [le_length]; omega) (Ev.get rfl (Ev.pos (by simp [le_length]; omega) ?_)))))))))))
  refine Ev.same ?_
  rw [ints_length, e1, e2, e3]
  unfold byT
  simp
theorem drop_cons {α : Type} {a r : List α} {x : α} {i : Nat} (h : a.drop i = x :: r) : i < a.length ∧ a[i]? = some x ∧ a.drop (i + 1) = r := by
  have hlt : i < a.length := by
    rcases Nat.lt_or_ge i a.length with h1 | h1
    · exact h1
    · rw [List.drop_eq_nil_of_le h1] at h
      cases h
  rw [List.drop_eq_getElem_cons hlt] at h
  injection h with hx hr
  exact ⟨hlt, by rw [List.getElem?_eq_getElem hlt, hx], hr⟩
theorem less_at {a : List Nat} {d i : Nat} (h : (lessT a)[i]? = some d) : ∃ x, a[i]? = some x ∧ d = x - baseT a := by
  unfold lessT at h
  rw [List.getElem?_map, Option.map_eq_some_iff] at h
  obtain ⟨x, h1, h2⟩ := h
  exact ⟨x, h1, h2.symm⟩
theorem base_le {a : List Nat} {x i : Nat} (h : a[i]? = some x) : baseT a ≤ x := (minT_le a _).2 x (List.mem_of_getElem? h)
theorem rd_some {a : List Nat} {x i : Nat} (h : a[i]? = some x) : rd (ints a) (i : Int) = (x : Int) := by
  rw [rd_ints, List.getD_eq_getElem?_getD, h]
  rfl
theorem refby_loop (a : List Nat) (w : Nat) (hw : w ≤ 64) (hl : a.length ≤ 32) (hb : ∀ x ∈ a, x < 2 ^ 64) {R : List Int} : ∀ (r : List Nat) (i : Nat) (x7 : List Nat) (x8 : List Int) (c : Nat), (lessT a).drop i = r → i ≤ a.length → x7.length ≤ i → x8.length ≤ 10 * i → c ≤ i →
    Ev (fun k => r04_By.l1 k (ints a) (w : Int) ((baseT a : Nat) : Int) (ints (x7 ++ lowT w r)) (x8 ++ tailT w i r) ((c + cntT w r : Nat) : Int) (a.length : Int)) R →
    Ev (fun k => r04_By.l1 k (ints a) (w : Int) ((baseT a : Nat) : Int) (ints x7) x8 (c : Int) (i : Int)) R
  | [], i, x7, x8, c, hd, hi, h7, h8, hc, h => by
    have h1 : (lessT a).length ≤ i := List.drop_eq_nil_iff.1 hd
    rw [lessT_length] at h1
    have e : i = a.length := by omega
    subst e
    simpa [lowT, tailT, cntT] using h
  | d :: r, i, x7, x8, c, hd, hi, h7, h8, hc, h => by
    obtain ⟨hlt, hat, hr⟩ := drop_cons hd
    rw [lessT_length] at hlt
    have hd64 : d < 2 ^ 64 := lessT_lt a hb d (List.mem_of_getElem? hat)
    obtain ⟨x, hx, hdx⟩ := less_at hat
    have hbx := base_le hx
    have hx64 := hb x (List.mem_of_getElem? hx)
    have hu := usub x (baseT a) hbx hx64
    rw [← hdx] at hu
    have hh : d / 2 ^ w < 2 ^ 64 := Nat.lt_of_le_of_lt (Nat.div_le_self _ _) hd64
    have hnb := numB_le (d / 2 ^ w) hh
    have HU := Lib.hid hu
    clear hu
    have HS := Lib.hid (w64_succ i (by omega))
    have HS2 := Lib.hid (w64_succ c (by omega))
    have HD64 := Lib.hid hd64
    have HH := Lib.hid hh
    clear hd64 hh hx64 hbx
    have hi256 : (i : Int) % 256 = (i : Int) := by omega
    refine Ev.step (fun k => by rw [r04_By.l1, ints_length, rd_some hx, HU.out, HS.out, HS2.out]) ?_
    refine Ev.pos (Int.ofNat_lt.2 hlt) (Ev.pos (Int.natCast_nonneg i) ?_)
    by_cases h64 : w = 64
    · subst h64
      refine Ev.pos (by rfl) (Ev.pos (by rw [ints_length]; omega) ?_)
      have h0 : d / 2 ^ 64 = 0 := Nat.div_eq_of_lt HD64.out
      rw [← ints_snoc]
      refine refby_loop a 64 hw hl hb r (i + 1) (x7 ++ [d]) x8 c hr (by omega) (by simp; omega) (by omega) (by omega) ?_
      have e1 : x7 ++ [d] ++ lowT 64 r = x7 ++ lowT 64 (d :: r) := by simp [lowT, Nat.mod_eq_of_lt HD64.out]
      have e2 : tailT 64 i (d :: r) = tailT 64 (i + 1) r := by simp [tailT, h0]
      have e3 : cntT 64 (d :: r) = cntT 64 r := cntT_neg r (by omega)
      rw [e1, ← e2, ← e3]
      exact h
    · refine Ev.neg (by omega) (Ev.pos (by omega) (Ev.neg (shl_z w (by omega)) (Ev.pos (by rw [ints_length]; omega) ?_)))
      rw [shl1 w (by omega), tmodN, shr_nat d w (by omega), ← ints_snoc]
      refine Ev.get rfl ?_
      have e1 : x7 ++ [d % 2 ^ w] ++ lowT w r = x7 ++ lowT w (d :: r) := by simp [lowT]
      by_cases h0 : 0 < d / 2 ^ w
      · refine Ev.pos (by omega) (Ev.pos (by omega) (Ev.get rfl (Ev.bind (bytes _ HH.out) (Ev.pos (by simp; omega) ?_))))
        refine refby_loop a w hw hl hb r (i + 1) (x7 ++ [d % 2 ^ w]) (x8 ++ [(i : Int) % 256] ++ numB (d / 2 ^ w)) (c + 1) hr (by omega) (by simp; omega) (by simp; omega) (by omega) ?_
        have e2 : x8 ++ [(i : Int) % 256] ++ numB (d / 2 ^ w) ++ tailT w (i + 1) r = x8 ++ tailT w i (d :: r) := by simp [tailT, h0]
        have e3 : c + 1 + cntT w r = c + cntT w (d :: r) := by rw [cntT_pos r h0]; omega
        rw [e1, e2, e3]
        exact h
      · refine Ev.neg (by omega) ?_
        refine refby_loop a w hw hl hb r (i + 1) (x7 ++ [d % 2 ^ w]) x8 c hr (by omega) (by simp; omega) (by omega) (by omega) ?_
        have e2 : tailT w i (d :: r) = tailT w (i + 1) r := by simp [tailT, h0]
        have e3 : cntT w (d :: r) = cntT w r := cntT_neg r h0
        rw [e1, ← e2, ← e3]
        exact h
theorem refby (a : List Nat) (w : Nat) (hw : w ≤ 64) (h0 : 0 < a.length) (hl : a.length ≤ 32) (hb : ∀ x ∈ a, x < 2 ^ 64) : Ev (fun k => r04_By.f k (ints a) (w : Int)) (byT a w) := by
  unfold r04_By.f
  refine Ev.pos (by rw [ints_length]; omega) ?_
  have h1 := refby_loop a w hw hl hb (lessT a) 0 [] [] 0 rfl (by omega) (by simp) (by simp) (by omega) (R := byT a w) (by simpa using refby_end a w hw hl hb a.length (Nat.le_refl _) h0)
  have h2 := refmin_loop a (by omega) (w : Int) a 0 (a.getD 0 0) rfl (by omega) (R := byT a w) h1
  have e : rd (ints a) 0 = ((a.getD 0 0 : Nat) : Int) := rd_ints a 0
  rw [e]
  exact h2
theorem refblock_loop (a : List Nat) (h0 : 0 < a.length) (hl : a.length ≤ 32) (hb : ∀ x ∈ a, x < 2 ^ 64) : ∀ (f w b : Nat), w + f = 65 → Ev (fun k => r04_Block.l0 k (ints a) (byT a b) (w : Int)) (byT a (bestT (lessT a) f w b))
  | 0, w, b, hf => by
    refine Ev.step (fun k => by rw [r04_Block.l0]) ?_
    exact Ev.neg (by omega) (Ev.now _)
  | f + 1, w, b, hf => by
    refine Ev.step (fun k => by rw [r04_Block.l0, w64_succ w (by omega)]) ?_
    refine Ev.pos (by omega) (Ev.bind (refby a w (by omega) h0 hl hb) ?_)
    have e : ((byT a w).length : Int) < ((byT a b).length : Int) ↔ sizeT w (lessT a) < sizeT b (lessT a) := by
      rw [byT_length, byT_length]
      omega
    rw [bestT]
    by_cases h : sizeT w (lessT a) < sizeT b (lessT a)
    · rw [if_pos h]
      exact Ev.pos (e.2 h) (refblock_loop a h0 hl hb f (w + 1) w (by omega))
    · rw [if_neg h]
      exact Ev.neg (fun h' => h (e.1 h')) (refblock_loop a h0 hl hb f (w + 1) b (by omega))
theorem refblock (a : List Nat) (h0 : 0 < a.length) (hl : a.length ≤ 32) (hb : ∀ x ∈ a, x < 2 ^ 64) : Ev (fun k => r04_Block.f k (ints a)) (blockT a) := by
  unfold r04_Block.f
  exact Ev.bind (refby a 0 (by omega) h0 hl hb) (refblock_loop a h0 hl hb 64 1 0 (by omega))
theorem blockT_le (a : List Nat) (h0 : 0 < a.length) (hl : a.length ≤ 32) (hb : ∀ x ∈ a, x < 2 ^ 64) : (blockT a).length ≤ 2000 := by
  have hbest : ∀ f w b, w + f ≤ 65 → b ≤ 64 → bestT (lessT a) f w b ≤ 64 := by
    intro f
    induction f with
    | zero => intro w b _ h; exact h
    | succ f ih =>
      intro w b h1 h2
      rw [bestT]
      split
      · exact ih _ _ (by omega) (by omega)
      · exact ih _ _ (by omega) h2
  have hw := hbest 64 1 0 (by omega) (by omega)
  have hbase : baseT a < 2 ^ 64 := by
    have h1 := (minT_le a (a.getD 0 0)).2 a[0] (List.getElem_mem h0)
    have h2 := hb a[0] (List.getElem_mem h0)
    unfold baseT
    omega
  have hn := numB_le (baseT a) hbase
  unfold blockT
  rw [byT_length]
  unfold sizeT
  have ht := tailT_le (bestT (lessT a) 64 1 0) (lessT a) 0 (lessT_lt a hb)
  have hm : bestT (lessT a) 64 1 0 * (lessT a).length ≤ 64 * 32 := Nat.mul_le_mul hw (by rw [lessT_length]; exact hl)
  rw [lessT_length] at *
  omega
theorem reflist (a : List Nat) (h0 : 0 < a.length) (hl : a.length ≤ 32) (hb : ∀ x ∈ a, x < 2 ^ 64) : Ev (fun k => r04_List.f k (ints a)) (numB a.length ++ blockT a) := by
  unfold r04_List.f
  rw [ints_length, wrapu _ (by omega)]
  refine Ev.bind (bytes a.length (by omega)) ?_
  have e : mn (a.length : Int) (wrap64 (0 + 32)) = (a.length : Int) := by
    have : wrap64 (0 + 32) = 32 := by unfold wrap64; decide
    rw [this]
    unfold mn
    split <;> omega
  have hn := numB_le a.length (by omega)
  have hk := blockT_le a h0 hl hb
  refine Ev.step (fun k => by rw [r04_List.l0, ints_length, e]) ?_
  refine Ev.pos (by omega) (Ev.pos (by omega) (Ev.pos (by omega) (Ev.pos (by omega) ?_)))
  have e2 : ((ints a).take ((a.length : Int)).toNat).drop (0 : Int).toNat = ints a := by
    rw [Int.toNat_natCast, List.take_of_length_le (by rw [ints_length]; omega)]
    rfl
  rw [e2]
  refine Ev.bind (refblock a h0 hl hb) (Ev.pos (by omega) ?_)
  refine Ev.step (fun k => by rw [r04_List.l0, ints_length]) ?_
  refine Ev.neg ?_ (Ev.now _)
  have : wrap64 (0 + 32) = 32 := by unfold wrap64; decide
  rw [this]
  omega
end Law
namespace Law
theorem high (d w : Nat) (hw : w ≤ 64) (hd : d < 2 ^ 64) : pfor_high.f (d : Int) (w : Int) = some ((d / 2 ^ w : Nat) : Int) := by
  unfold pfor_high.f
  by_cases h : w = 64
  · subst h
    rw [if_pos (by omega), Nat.div_eq_of_lt hd]
    rfl
  · rw [if_neg (by omega), if_pos (by omega), shr_nat d w hw]
theorem sizeN (d : Nat) (hd : d < 2 ^ 64) : Ev (fun k => pfor_size.f k (d : Int)) ((numB d).length : Int) := by
  unfold pfor_size.f
  exact Ev.bind (put [] d hd (by simp)) (by simpa using Ev.now ((numB d).length : Int))
theorem width_in (ds : List Nat) (w : Nat) (hw : w ≤ 64) (hl : ds.length ≤ 32) (hb : ∀ x ∈ ds, x < 2 ^ 64) (x3 x4 : Int) {R : Int} : ∀ (r : List Nat) (i n : Nat), ds.drop i = r → i ≤ ds.length → n ≤ 1000 + 10 * i →
    Ev (fun k => pfor_width.l1 k (ints ds) x3 x4 (w : Int) ((n + (tailT w i r).length : Nat) : Int) (ints ds) (ds.length : Int) (ds.length : Int)) R →
    Ev (fun k => pfor_width.l1 k (ints ds) x3 x4 (w : Int) (n : Int) (ints ds) (ds.length : Int) (i : Int)) R
  | [], i, n, hd, hi, hn, h => by
    have h1 : ds.length ≤ i := List.drop_eq_nil_iff.1 hd
    have e : i = ds.length := by omega
    subst e
    simpa [tailT] using h
  | d :: r, i, n, hd, hi, hn, h => by
    obtain ⟨hlt, hat, hr⟩ := drop_cons hd
    have hd64 : d < 2 ^ 64 := hb d (List.mem_of_getElem? hat)
    have hh : d / 2 ^ w < 2 ^ 64 := Nat.lt_of_le_of_lt (Nat.div_le_self _ _) hd64
    have hnb := numB_le (d / 2 ^ w) hh
    have HH := Lib.hid hh
    have HD := Lib.hid hd64
    clear hh hd64
    have HS := Lib.hid (w64_succ i (by omega))
    have H1 := Lib.hid (w64_nat (1 + ((numB (d / 2 ^ w)).length : Int)) (1 + (numB (d / 2 ^ w)).length) (by omega) (by omega))
    have H2 := Lib.hid (w64_nat ((n : Int) + ((1 + (numB (d / 2 ^ w)).length : Nat) : Int)) (n + (1 + (numB (d / 2 ^ w)).length)) (by omega) (by omega))
    refine Ev.step (fun k => by rw [pfor_width.l1, rd_some hat, ints_length, high d w hw HD.out, Option.bind_some]) ?_
    refine Ev.pos (Int.ofNat_lt.2 hlt) (Ev.pos (Int.natCast_nonneg i) (Ev.pos (Int.ofNat_lt.2 hlt) ?_))
    rw [HS.out]
    by_cases h0 : 0 < d / 2 ^ w
    · refine Ev.pos (Int.ofNat_lt.2 h0) (Ev.bind (sizeN _ HH.out) ?_)
      rw [H1.out, H2.out]
      refine width_in ds w hw hl hb x3 x4 r (i + 1) _ hr (by omega) (by omega) ?_
      have e : n + (1 + (numB (d / 2 ^ w)).length) + (tailT w (i + 1) r).length = n + (tailT w i (d :: r)).length := by
        rw [tailT, if_pos h0, List.length_append, List.length_cons]
        omega
      rw [e]
      exact h
    · refine Ev.neg (fun h1 => h0 (Int.ofNat_lt.1 h1)) ?_
      refine width_in ds w hw hl hb x3 x4 r (i + 1) n hr (by omega) (by omega) ?_
      have e : (tailT w (i + 1) r).length = (tailT w i (d :: r)).length := by
        rw [tailT, if_neg h0, List.nil_append]
      rw [e]
      exact h
theorem width_w (ds : List Nat) (w : Nat) (hw : w ≤ 64) (hl : ds.length ≤ 32) (hb : ∀ x ∈ ds, x < 2 ^ 64) (x3 x4 : Int) {R : Int}
    (h : Ev (fun k => if x4 < 0 then (pfor_width.l0 k (ints ds) (w : Int) (sizeT w ds : Int) ((w + 1 : Nat) : Int)) else (if (sizeT w ds : Int) < x4 then (pfor_width.l0 k (ints ds) (w : Int) (sizeT w ds : Int) ((w + 1 : Nat) : Int)) else (pfor_width.l0 k (ints ds) x3 x4 ((w + 1 : Nat) : Int)))) R) :
    Ev (fun k => pfor_width.l0 k (ints ds) x3 x4 (w : Int)) R := by
  have hp := place ds.length w 7 (by omega) hw (by omega)
  have hp1 := hp.1
  have hp2 := hp.2
  rw [show ((7 : Nat) : Int) = 7 by rfl] at hp1
  have HP := Lib.hid hp1
  clear hp hp1
  have HT := Lib.hid (tdiv8 (w * ds.length + 7) (by omega)).1
  have HS := Lib.hid (w64_succ w (by omega))
  have hm : w * ds.length ≤ 64 * 32 := Nat.mul_le_mul hw hl
  refine Ev.step (fun k => by rw [pfor_width.l0, ints_length, HP.out, HT.out]) ?_
  refine Ev.pos (by omega) ?_
  refine width_in ds w hw hl hb x3 x4 ds 0 _ rfl (by omega) (by omega) ?_
  refine Ev.step (fun k => by rw [pfor_width.l1, HS.out]) ?_
  exact Ev.neg (by omega) h
theorem width_out (ds : List Nat) (hl : ds.length ≤ 32) (hb : ∀ x ∈ ds, x < 2 ^ 64) : ∀ (f w b : Nat), w + f = 65 → Ev (fun k => pfor_width.l0 k (ints ds) (b : Int) (sizeT b ds : Int) (w : Int)) ((bestT ds f w b : Nat) : Int)
  | 0, w, b, hf => by
    refine Ev.step (fun k => by rw [pfor_width.l0]) ?_
    exact Ev.neg (by omega) (Ev.now _)
  | f + 1, w, b, hf => by
    refine width_w ds w (by omega) hl hb _ _ (Ev.neg (by omega) ?_)
    rw [bestT]
    by_cases h : sizeT w ds < sizeT b ds
    · rw [if_pos h]
      exact Ev.pos (by omega) (width_out ds hl hb f (w + 1) w (by omega))
    · rw [if_neg h]
      exact Ev.neg (by omega) (width_out ds hl hb f (w + 1) b (by omega))
theorem widthP (ds : List Nat) (hl : ds.length ≤ 32) (hb : ∀ x ∈ ds, x < 2 ^ 64) : Ev (fun k => pfor_width.f k (ints ds)) ((bestT ds 64 1 0 : Nat) : Int) := by
  unfold pfor_width.f
  exact width_w ds 0 (by omega) hl hb 0 (-1) (Ev.pos (by omega) (width_out ds hl hb 64 1 0 (by omega)))
theorem min_loop (a : List Nat) (hl : a.length < 1000000) : ∀ (r : List Nat) (i m : Nat), a.drop i = r → i ≤ a.length → Ev (fun k => slices_Min_uint64_uint64.l0 k (ints a) (m : Int) (i : Int)) ((minT r m : Nat) : Int)
  | [], i, m, hd, hi => by
    have : a.length ≤ i := List.drop_eq_nil_iff.1 hd
    refine Ev.step (fun k => by rw [slices_Min_uint64_uint64.l0, ints_length]) ?_
    exact Ev.neg (by omega) (Ev.now _)
  | x :: r, i, m, hd, hi => by
    obtain ⟨hlt, hat, hr⟩ := drop_cons hd
    have ih := min_loop a hl r (i + 1) (min m x) hr (by omega)
    have e2 : mn (m : Int) (x : Int) = ((min m x : Nat) : Int) := by unfold mn; split <;> omega
    have HS := Lib.hid (w64_succ i (by omega))
    refine Ev.step (fun k => by rw [slices_Min_uint64_uint64.l0, ints_length, rd_some hat, e2, HS.out]) ?_
    exact Ev.pos (by omega) (Ev.pos (by omega) ih)
theorem minP (a : List Nat) (h0 : 0 < a.length) (hl : a.length < 1000000) : Ev (fun k => slices_Min_uint64_uint64.f k (ints a)) ((baseT a : Nat) : Int) := by
  unfold slices_Min_uint64_uint64.f
  rw [ints_length]
  refine Ev.neg (by omega) (Ev.pos (by omega) ?_)
  cases a with
  | nil => simp at h0
  | cons x r =>
    have e : baseT (x :: r) = minT r x := by
      unfold baseT
      rw [minT]
      simp
    rw [e]
    exact min_loop (x :: r) hl r 1 x rfl (by simp)
theorem set_next (p : List Nat) (m : Nat) (v : Int) (w : Nat) (hv : v = (w : Int)) : (ints p ++ List.replicate (m + 1) 0).set p.length v = ints (p ++ [w]) ++ List.replicate m 0 := by
  subst hv
  rw [List.set_append_right _ _ (by rw [ints_length]; omega), ints_length, Nat.sub_self, List.replicate_succ, List.set_cons_zero, ints_snoc]
  simp
theorem less_loop (a : List Nat) (hl : a.length ≤ 32) (hb : ∀ x ∈ a, x < 2 ^ 64) (x0 : List Int) {R : List Int × Int}
    (h : Ev (fun k => (pfor_width.f k (ints (lessT a))).bind fun t => pfor_PutBlock.l1 k x0 (ints a) ((baseT a : Nat) : Int) t [] 0 (List.replicate a.length 0) (ints (lessT a)) (a.length : Int) 0) R) :
    ∀ (r p : List Nat), p ++ r = lessT a → Ev (fun k => pfor_PutBlock.l0 k x0 (ints a) ((baseT a : Nat) : Int) (ints p ++ List.replicate r.length 0) (ints a) (a.length : Int) (p.length : Int)) R
  | [], p, hp => by
    rw [List.append_nil] at hp
    subst hp
    have hln := lessT_length a
    refine Ev.step (fun k => by rw [pfor_PutBlock.l0, ints_length]) ?_
    refine Ev.neg (by omega) ?_
    rw [List.length_nil, List.replicate_zero, List.append_nil, ints_length, hln]
    refine Ev.congr (fun k => ?_) h
    congr 1
    funext t
    rw [if_pos (by omega), if_pos (by omega), Int.toNat_natCast]
  | d :: r, p, hp => by
    have hln := lessT_length a
    have hlt : p.length < a.length := by rw [← hln, ← hp]; simp
    have hat : (lessT a)[p.length]? = some d := by rw [← hp]; simp
    obtain ⟨x, hx, hdx⟩ := less_at hat
    have hu := usub x (baseT a) (base_le hx) (hb x (List.mem_of_getElem? hx))
    rw [← hdx] at hu
    have ih := less_loop a hl hb x0 h r (p ++ [d]) (by rw [← hp]; simp)
    rw [show ((p ++ [d]).length : Int) = ((p.length + 1 : Nat) : Int) by simp] at ih
    have HU := Lib.hid hu
    clear hu
    have HS := Lib.hid (w64_succ p.length (by omega))
    refine Ev.step (fun k => by rw [pfor_PutBlock.l0, ints_length, rd_some hx, HU.out, HS.out, Int.toNat_natCast, List.length_cons, set_next p _ _ d rfl]) ?_
    refine Ev.pos (by omega) (Ev.pos (by omega) (Ev.pos (by omega) (Ev.pos ?_ ih)))
    rw [List.length_append, ints_length, List.length_replicate]
    omega
theorem concat3 (A B C : List Int) (h : A.length + B.length + C.length < 140737488355300) : Ev (fun k => slices_Concat_byte_byte.f k [A, B, C]) (A ++ B ++ C) := by
  unfold slices_Concat_byte_byte.f
  have w1 := Lib.hid (w64_nat (0 + (A.length : Int)) A.length (by omega) (by omega))
  have w2 := Lib.hid (w64_nat ((A.length : Int) + (B.length : Int)) (A.length + B.length) (by omega) (by omega))
  have w3 := Lib.hid (w64_nat (((A.length + B.length : Nat) : Int) + (C.length : Int)) (A.length + B.length + C.length) (by omega) (by omega))
  have s1 : wrap64 (0 + 1) = 1 := by unfold wrap64; decide
  have s2 : wrap64 (1 + 1) = 2 := by unfold wrap64; decide
  have s3 : wrap64 (2 + 1) = 3 := by unfold wrap64; decide
  have e0 : rd_L1 [A, B, C] 0 = A := rfl
  have e1 : rd_L1 [A, B, C] 1 = B := rfl
  have e2 : rd_L1 [A, B, C] 2 = C := rfl
  have el : (([A, B, C] : List (List Int)).length : Int) = 3 := rfl
  have S1 := Lib.hid s1
  have S2 := Lib.hid s2
  have S3 := Lib.hid s3
  clear s1 s2 s3
  rw [el]
  refine Ev.step (fun k => by rw [slices_Concat_byte_byte.l0, e0, w1.out, S1.out, el]) ?_
  refine Ev.pos (by decide) (Ev.pos (by decide) (Ev.pos (by decide) (Ev.neg (by omega) ?_)))
  refine Ev.step (fun k => by rw [slices_Concat_byte_byte.l0, e1, w2.out, S2.out, el]) ?_
  refine Ev.pos (by decide) (Ev.pos (by decide) (Ev.pos (by decide) (Ev.neg (by omega) ?_)))
  refine Ev.step (fun k => by rw [slices_Concat_byte_byte.l0, e2, w3.out, S3.out, el]) ?_
  refine Ev.pos (by decide) (Ev.pos (by decide) (Ev.pos (by decide) (Ev.neg (by omega) ?_)))
  refine Ev.step (fun k => by rw [slices_Concat_byte_byte.l0]) ?_
  refine Ev.neg (by decide) (Ev.get (a := []) (if_pos (by simp; omega)) ?_)
  rw [el]
  refine Ev.step (fun k => by rw [slices_Concat_byte_byte.l1, e0, S1.out, el]) ?_
  refine Ev.pos (by decide) (Ev.pos (by decide) (Ev.pos (by decide) (Ev.pos (by simp; omega) ?_)))
  refine Ev.step (fun k => by rw [slices_Concat_byte_byte.l1, e1, S2.out, el]) ?_
  refine Ev.pos (by decide) (Ev.pos (by decide) (Ev.pos (by decide) (Ev.pos (by simp; omega) ?_)))
  refine Ev.step (fun k => by rw [slices_Concat_byte_byte.l1, e2, S3.out, el]) ?_
  refine Ev.pos (by decide) (Ev.pos (by decide) (Ev.pos (by decide) (Ev.pos (by simp; omega) ?_)))
  refine Ev.step (fun k => by rw [slices_Concat_byte_byte.l1]) ?_
  refine Ev.neg (by decide) ?_
  simpa using Ev.now (A ++ (B ++ C))
theorem block_end (a : List Nat) (w : Nat) (hw : w ≤ 64) (h0 : 0 < a.length) (hl : a.length ≤ 32) (hb : ∀ x ∈ a, x < 2 ^ 64) (x0 : List Int) (hx0 : x0.length < 140737488352500) :
    Ev (fun k => pfor_PutBlock.l1 k x0 (ints a) ((baseT a : Nat) : Int) (w : Int) (tailT w 0 (lessT a)) ((cntT w (lessT a) : Nat) : Int) (ints (lowT w (lessT a))) (ints (lessT a)) (a.length : Int) (a.length : Int)) (x0 ++ byT a w, 0) := by
  have hbase : baseT a < 2 ^ 64 := by
    have h1 := (minT_le a (a.getD 0 0)).2 a[0] (List.getElem_mem h0)
    have h2 := hb a[0] (List.getElem_mem h0)
    unfold baseT
    omega
  have hpk := pack03 w hw (lowT w (lessT a)) (by simp [lowT, lessT]; omega) (lowT_lt w _)
  have hlow : (lowT w (lessT a)).length = a.length := by simp [lowT, lessT]
  rw [hlow] at hpk
  have hn := numB_le (baseT a) hbase
  have ht := tailT_le w (lessT a) 0 (lessT_lt a hb)
  rw [lessT_length] at ht
  have hcnt : cntT w (lessT a) ≤ a.length := by
    have := List.length_filter_le (fun d => decide (0 < d / 2 ^ w)) (lessT a)
    rw [lessT_length] at this
    exact this
  have hsz : (w * a.length + 7) / 8 ≤ 1000 := by
    have : w * a.length ≤ 64 * 32 := Nat.mul_le_mul hw hl
    omega
  have e1 : ((a.length : Int)) % 256 = (a.length : Int) := by omega
  have e2 : (w : Int) % 256 = (w : Int) := by omega
  have e3 : ((cntT w (lessT a) : Nat) : Int) % 256 = ((cntT w (lessT a) : Nat) : Int) := by omega
  have HB := Lib.hid hbase
  clear hbase
  refine Ev.step (fun k => by rw [pfor_PutBlock.l1, ints_length a, e1, e2, e3]) ?_
  refine Ev.neg (by omega) (Ev.bind hpk (Ev.pos rfl (Ev.get (a := x0) (if_pos (by omega)) (Ev.pos (by omega) (Ev.bind (put (x0 ++ [(a.length : Int)]) (baseT a) HB.out (by simp; omega)) (Ev.get rfl (Ev.pos (by simp; omega) ?_)))))))
  refine Ev.bind (concat3 _ _ _ ?_) ?_
  · simp [le_length]
    omega
  · have e : x0 ++ byT a w = x0 ++ [(a.length : Int)] ++ numB (baseT a) ++ [(w : Int), ((cntT w (lessT a) : Nat) : Int)] ++ le (sumw w (lowT w (lessT a))) ((w * a.length + 7) / 8) ++ tailT w 0 (lessT a) := by
      unfold byT
      simp
    rw [e]
    exact Ev.now _
theorem block_loop (a : List Nat) (w : Nat) (hw : w ≤ 64) (hl : a.length ≤ 32) (hb : ∀ x ∈ a, x < 2 ^ 64) (x0 : List Int) {R : List Int × Int}
    (h : Ev (fun k => pfor_PutBlock.l1 k x0 (ints a) ((baseT a : Nat) : Int) (w : Int) (tailT w 0 (lessT a)) ((cntT w (lessT a) : Nat) : Int) (ints (lowT w (lessT a))) (ints (lessT a)) (a.length : Int) (a.length : Int)) R) :
    ∀ (r p : List Nat) (T : List Int) (c : Nat), p ++ r = lessT a → T ++ tailT w p.length r = tailT w 0 (lessT a) → c + cntT w r = cntT w (lessT a) → T.length ≤ 10 * p.length → c ≤ p.length →
    Ev (fun k => pfor_PutBlock.l1 k x0 (ints a) ((baseT a : Nat) : Int) (w : Int) T (c : Int) (ints (lowT w p) ++ List.replicate r.length 0) (ints (lessT a)) (a.length : Int) (p.length : Int)) R
  | [], p, T, c, hp, hT, hc, _, _ => by
    rw [List.append_nil] at hp
    subst hp
    rw [tailT, List.append_nil] at hT
    have e : c = cntT w (lessT a) := by simpa [cntT] using hc
    subst e
    subst hT
    rw [List.length_nil, List.replicate_zero, List.append_nil, lessT_length]
    exact h
  | d :: r, p, T, c, hp, hT, hc, hTl, hcl => by
    have hln := lessT_length a
    have hlt : p.length < a.length := by rw [← hln, ← hp]; simp
    have hat : (lessT a)[p.length]? = some d := by rw [← hp]; simp
    have hd64 : d < 2 ^ 64 := lessT_lt a hb d (List.mem_of_getElem? hat)
    have hh : d / 2 ^ w < 2 ^ 64 := Nat.lt_of_le_of_lt (Nat.div_le_self _ _) hd64
    have hnb := numB_le (d / 2 ^ w) hh
    have HD := Lib.hid hd64
    have HH := Lib.hid hh
    clear hd64 hh
    have HS := Lib.hid (w64_succ p.length (by omega))
    have HC := Lib.hid (w64_succ c (by omega))
    have hlen : (ints (lowT w p) ++ List.replicate (r.length + 1) 0).length = a.length := by
      rw [List.length_append, ints_length, List.length_replicate]
      have : (p ++ d :: r).length = a.length := by rw [hp, hln]
      simp at this
      simp [lowT]
      omega
    have hset : ∀ v : Int, (ints (lowT w p) ++ List.replicate (r.length + 1) 0).set p.length v = (ints (lowT w p) ++ List.replicate (r.length + 1) 0).set (lowT w p).length v := by
      intro v
      simp [lowT]
    have hp256 : (p.length : Int) % 256 = (p.length : Int) := by omega
    refine Ev.step (fun k => by rw [pfor_PutBlock.l1, ints_length, rd_some hat, high d w hw HD.out, Option.bind_some, HS.out, HC.out, Int.toNat_natCast, List.length_cons, hlen]) ?_
    refine Ev.pos (by omega) (Ev.pos (by omega) (Ev.pos (by omega) (Ev.pos (by omega) (Ev.get rfl ?_))))
    have e1 : lowT w p ++ [d % 2 ^ w] = lowT w (p ++ [d]) := by simp [lowT]
    by_cases h0 : 0 < d / 2 ^ w
    · have hw64 : w < 64 := by
        rcases Nat.lt_or_ge w 64 with h1 | h1
        · exact h1
        · have : w = 64 := by omega
          subst this
          rw [Nat.div_eq_of_lt HD.out] at h0
          exact absurd h0 (by decide)
      refine Ev.pos (Int.ofNat_lt.2 h0) (Ev.pos (Int.natCast_nonneg w) (Ev.pos (by omega) (Ev.bind (put (T ++ [(p.length : Int) % 256]) _ HH.out (by simp; omega)) ?_)))
      rw [shl_nat (d / 2 ^ w) w (by omega) (Nat.lt_of_le_of_lt (Nat.div_mul_le_self d (2 ^ w)) HD.out), clear_high d w HD.out, List.set_set, hset, set_next (lowT w p) _ _ (d % 2 ^ w) rfl, e1]
      have ih := block_loop a w hw hl hb x0 h r (p ++ [d]) (T ++ [(p.length : Int) % 256] ++ numB (d / 2 ^ w)) (c + 1) (by rw [← hp]; simp) (by rw [← hT, tailT, if_pos h0]; simp) (by rw [← hc, cntT_pos r h0]; omega) (by simp; omega) (by simp; omega)
      rw [show ((p ++ [d]).length : Int) = ((p.length + 1 : Nat) : Int) by simp] at ih
      exact ih
    · refine Ev.neg (fun h1 => h0 (Int.ofNat_lt.1 h1)) ?_
      have hdl : d % 2 ^ w = d := by
        rcases Nat.div_eq_zero_iff.1 (Nat.eq_zero_of_not_pos h0) with h1 | h1
        · exact absurd h1 (Nat.ne_of_gt (Nat.two_pow_pos w))
        · exact Nat.mod_eq_of_lt h1
      rw [hset, set_next (lowT w p) _ _ (d % 2 ^ w) (by rw [hdl]), e1]
      have ih := block_loop a w hw hl hb x0 h r (p ++ [d]) T c (by rw [← hp]; simp) (by rw [← hT, tailT, if_neg h0]; simp) (by rw [← hc, cntT_neg r h0]) (by simp; omega) (by simp; omega)
      rw [show ((p ++ [d]).length : Int) = ((p.length + 1 : Nat) : Int) by simp] at ih
      exact ih
theorem bestT_le (ds : List Nat) : ∀ f w b, w + f ≤ 65 → b ≤ 64 → bestT ds f w b ≤ 64
  | 0, _, _, _, h => h
  | f + 1, w, b, h1, h2 => by
    rw [bestT]
    split
    · exact bestT_le ds f _ _ (by omega) (by omega)
    · exact bestT_le ds f _ _ (by omega) h2
theorem putBlock (a : List Nat) (h0 : 0 < a.length) (hl : a.length ≤ 32) (hb : ∀ x ∈ a, x < 2 ^ 64) (x0 : List Int) (hx0 : x0.length < 140737488352500) : Ev (fun k => pfor_PutBlock.f k x0 (ints a)) (x0 ++ blockT a, 0) := by
  unfold pfor_PutBlock.f
  rw [ints_length]
  refine Ev.neg (by omega) ?_
  rw [decide_eq_false (by omega)]
  refine Ev.step (fun k => by rw [pfor_PutBlock.j0, ints_length]) ?_
  refine Ev.neg (by decide) (Ev.bind (minP a h0 (by omega)) (Ev.pos (by omega) (Ev.pos (by omega) ?_)))
  rw [Int.toNat_natCast]
  have hw := bestT_le (lessT a) 64 1 0 (by omega) (by omega)
  have h1 := block_loop a _ hw hl hb x0 (block_end a _ hw h0 hl hb x0 hx0) (lessT a) [] [] 0 rfl rfl (by omega) (by simp) (by omega)
  have h2 := less_loop a hl hb x0 (R := (x0 ++ blockT a, 0)) (Ev.bind (widthP (lessT a) (by rw [lessT_length]; exact hl) (lessT_lt a hb)) (by rw [lessT_length] at h1; exact h1)) (lessT a) [] rfl
  rw [lessT_length] at h2
  exact h2
theorem putList (a : List Nat) (h0 : 0 < a.length) (hl : a.length ≤ 32) (hb : ∀ x ∈ a, x < 2 ^ 64) (x0 : List Int) (hx0 : x0.length < 140737488352000) : Ev (fun k => pfor_PutList.f k x0 (ints a)) (x0 ++ (numB a.length ++ blockT a)) := by
  unfold pfor_PutList.f
  rw [ints_length]
  have hn := numB_le a.length (by omega)
  refine Ev.pos (by omega) (Ev.bind (put x0 a.length (by omega) (by omega)) (Ev.bind (putBlock a h0 hl hb _ (by simp; omega)) ?_))
  simpa using Ev.now (x0 ++ (numB a.length ++ blockT a))
end Law
end Go.Proofs.Ythaifibhflfpkaa.Q
end
