/- A part of the claim's own texts: words, walks and plain laws. -/
import Derived.Test.YthaifibhflfpkaaTp2
import Derived.Test.YthaifibhflfpkaaTp4
namespace Go.Proofs.YthaifibhflfpkaaX
abbrev b0_ : Array Bool := #[false, false, false, false, false, false, false, false, false, false, false, false, false, false, false, false, false, false, false]
abbrev b1_ : Array Bool := #[true, false, false, false, false, false, false, false, false, false, false, false, false, false, false, false, false, false, false]
abbrev b2_ : Array Bool := #[true, true, false, false, false, false, false, false, false, false, false, false, false, false, false, false, false, false, false]
abbrev b3_ : Array Bool := #[true, true, true, false, false, false, false, false, false, false, false, false, false, false, false, false, false, false, false]
abbrev b4_ : Array Bool := #[true, true, true, true, false, false, false, false, false, false, false, false, false, false, false, false, false, false, false]
abbrev b5_ : Array Bool := #[true, true, true, true, true, false, false, false, false, false, false, false, false, false, false, false, false, false, false]
abbrev b6_ : Array Bool := #[true, true, true, true, true, true, false, false, false, false, false, false, false, false, false, false, false, false, false]
abbrev b7_ : Array Bool := #[true, true, true, true, true, true, true, false, false, false, false, false, false, false, false, false, false, false, false]
abbrev b8_ : Array Bool := #[true, true, true, true, true, true, true, true, false, false, false, false, false, false, false, false, false, false, false]
abbrev b9_ : Array Bool := #[true, true, true, true, true, true, true, true, false, true, false, false, false, false, false, false, false, false, false]
abbrev b10_ : Array Bool := #[true, true, true, true, true, true, true, true, false, true, true, false, false, false, false, false, false, false, false]
abbrev b11_ : Array Bool := #[true, true, true, true, true, true, true, true, false, true, true, true, false, false, false, false, false, false, false]
abbrev b12_ : Array Bool := #[true, true, true, true, true, true, true, true, false, true, true, true, true, false, false, false, false, false, false]
abbrev b13_ : Array Bool := #[true, true, true, true, true, true, true, true, false, true, true, true, true, true, false, false, false, false, false]
abbrev b14_ : Array Bool := #[true, true, true, true, true, true, true, true, false, true, true, true, true, true, true, false, false, false, false]
abbrev b15_ : Array Bool := #[true, true, true, true, true, true, true, true, false, true, true, true, true, true, true, true, false, false, false]
abbrev b16_ : Array Bool := #[true, true, true, true, true, true, true, true, true, true, true, true, true, true, true, true, false, false, false]
abbrev b17_ : Array Bool := #[true, true, true, true, true, true, true, true, true, true, true, true, true, true, true, true, true, false, false]
abbrev b18_ : Array Bool := #[true, true, true, true, true, true, true, true, true, true, true, true, true, true, true, true, true, true, false]
abbrev b19_ : Array Bool := #[true, true, true, true, true, true, true, true, true, true, true, true, true, true, true, true, true, true, true]
end Go.Proofs.YthaifibhflfpkaaX
section
namespace Go.Proofs.Ythaifibhflfpkaa.Q
open Go.RowKit Go.Proofs.YthaifibhflfpkaaW.PrintWords Go.Proofs.YthaifibhflfpkaaW.PrintLast Go.Proofs.YthaifibhflfpkaaW.PrintMore Go.Proofs.YthaifibhflfpkaaX
attribute [local go_sem] max2_int min2_int max_two min_two max_three min_three max_four min_four   -- for this text's walks alone
set_option linter.unusedVariables false
set_option linter.unusedSimpArgs false
mutual
def r03_Pack.j0 : Nat → List Int → Int → Bool → Option (List Int × Int)
 | 0, _, _, _ => none
 | k + 1, x0, x1, x14 => if x14 = true then (some (([] : List Int), 1)) else ((r03_Size.f (x0.length : Int) x1).bind fun t460 => (if 0 ≤ t460 then (if (t460 : Int).toNat ≤ 281474976710656 then (r03_Pack.l0 k x0 x1 (List.replicate (t460 : Int).toNat 0) 0) else (none)) else (none)))
def r03_Pack.l0 : Nat → List Int → Int → List Int → Int → Option (List Int × Int)
 | 0, _, _, _, _ => none
 | k + 1, x0, x1, x6, x7 => if x7 < (x0.length : Int) then (if 0 ≤ x7 then ((r03_Fits.f (rd x0 x7) x1).bind fun t465 => (if t465 = true then (r03_Pack.l1 k x0 x1 x6 x7 0) else (some (([] : List Int), 7)))) else (none)) else (some (x6, 0))
def r03_Pack.l1 : Nat → List Int → Int → List Int → Int → Int → Option (List Int × Int)
 | 0, _, _, _, _, _ => none
 | k + 1, x0, x1, x6, x7, x8 => if x8 < x1 then (if 0 ≤ x7 then (if x7 < (x0.length : Int) then (if 0 ≤ x8 then (if (Int.tmod (shr .u64 (rd x0 x7) x8) 2) = 1 then (if 0 ≤ (wrap64 (Int.tdiv (wrap64 ((wrap64 (x7 * x1)) + x8)) 8)) then (if (wrap64 (Int.tdiv (wrap64 ((wrap64 (x7 * x1)) + x8)) 8)) < (x6.length : Int) then (if 0 ≤ (Int.tmod (wrap64 ((wrap64 (x7 * x1)) + x8)) 8) then (r03_Pack.l1 k x0 x1 (x6.set ((wrap64 (Int.tdiv (wrap64 ((wrap64 (x7 * x1)) + x8)) 8)) : Int).toNat (((rd x6 (wrap64 (Int.tdiv (wrap64 ((wrap64 (x7 * x1)) + x8)) 8))) + (shl .u8 1 (Int.tmod (wrap64 ((wrap64 (x7 * x1)) + x8)) 8))) % 256)) x7 (wrap64 (x8 + 1))) else (none)) else (none)) else (none)) else (r03_Pack.l1 k x0 x1 x6 x7 (wrap64 (x8 + 1)))) else (none)) else (none)) else (none)) else (r03_Pack.l0 k x0 x1 x6 (wrap64 (x7 + 1)))
end
def r03_Pack.f (k : Nat) (l0 : List Int) (a1 : Int) : Option (List Int × Int) := if a1 < 0 then (r03_Pack.j0 k l0 a1 true) else (r03_Pack.j0 k l0 a1 (decide (a1 > 64)))
def r03_Pack.T13 : Bool × List (List Nat × List Nat) := (true, [([], []), ([], []), ([], []), ([1, 2], [1, 2]), ([], []), ([3, 4], [3, 4]), ([5], [5]), ([0, 6], [0, 6]), ([7], [7]), ([], []), ([], []), ([9, 10], [9, 10]), ([], []), ([11, 12], [11, 12]), ([13], [13]), ([14], [14]), ([8, 15], [8, 15]), ([0, 6, 0, 1, 2, 3, 4, 5, 6, 7, 8, 9, 10, 11, 12, 13, 14, 15, 16], [0, 6]), ([17, 16, 0, 1, 2, 3, 4, 5, 6, 7, 8, 9, 10, 11, 12, 13, 14, 15, 16], [16, 17])])
def r03_Pack.B13 : List Nat := [0, 0, 0, 6, 0, 30, 62, 127, 255, 0, 0, 1536, 0, 7680, 15872, 32256, 65535, 131071, 262143]
theorem r03_Pack.tab13 : rtab .any (opsOf Try.f107 13) = r03_Pack.T13 := by kernel_rfl
theorem r03_Pack.bits13 : waitsOk r03_Pack.T13.2 r03_Pack.B13 = true := by kernel_rfl
set_option maxHeartbeats 8000000 in
set_option maxRecDepth 100000 in
theorem r03_Pack.calls (k : Nat) (A0 : Option Addr) (c0 : Nat) (l0 : List Int) (a1 : Int) (r1 : List Int) (r2 : Int) (w : World) (hr0 : Kd.C (Kd.int .u64) w A0 l0.length l0) (hc0 : l0.length ≤ c0) (h : r03_Pack.f k l0 a1 = some (r1, r2)) :
  Calls Try.prog 107 #[.slice A0 l0.length c0, .int .i64 a1] w fun e w' => ∃ v0_ : Value, e = .returned (.tuple #[v0_, .int .i64 r2]) ∧ Kd.R (Kd.int .u8) 5 w' w.heap.size (fun _ => True) v0_ r1 ∧ Below w.heap.size w w' := by
 have HR0 := aM hr0
 have HC0 := aM hc0
 clear hr0 hc0
 have HB := aM (Below.refl w.heap.size w)
 have H : (if a1 < 0 then (r03_Pack.j0 k l0 a1 true) else (r03_Pack.j0 k l0 a1 (decide (a1 > 64)))) = some (r1, r2) := h
 clear h
 have HC3 := aM H
 clear H
 go_enter Try.func107, Try.ntmps107
 go_upto_region 1 with (fail)
 go_cut [14] (fun v14 wc => ∃ (kq : Nat) (x14_2 : Bool), v14 = .bool x14_2 ∧ Aside0 (r03_Pack.j0 kq l0 a1 x14_2 = some (r1, r2)) ∧ Aside0 (kq ≤ k) ∧ Aside0 (Below w.heap.size w wc))
 case first =>
  have H := HC3.out
  clear HC3
  by_cases c4 : a1 < 0
  ·
   rw [if_pos c4] at H
   have c4b0 : decide (a1 < 0) = true := decide_eq_true c4
   clear c4
   (first | rw [c4b0] | (simp only [i64_w, i32_w]; rw [c4b0]) | skip)
   have H' := aM H
   clear H
   go_wp2
   go_meet
   case rel => exact ⟨_, (true), (by first | rfl | (simp; done) | (simp [*]; done)), H', ⟨by first | omega | exact Nat.le_refl _⟩, ⟨xB HB.out⟩⟩
  ·
   rw [if_neg c4] at H
   have c4b0 : decide (a1 < 0) = false := decide_eq_false c4
   clear c4
   (first | rw [c4b0] | (simp only [i64_w, i32_w]; rw [c4b0]) | skip)
   have H' := aM H
   clear H
   go_wp2
   go_meet
   case rel => exact ⟨_, (decide (a1 > 64)), (by first | rfl | (simp; done) | (simp [*]; done)), H', ⟨by first | omega | exact Nat.le_refl _⟩, ⟨xB HB.out⟩⟩
 case rest =>
  clear HC3
  try clear c1
  try clear p2
  try clear c4
  try clear c4b0
  obtain ⟨kq, x14_2, rfl, HA, HJ2, HB⟩ := hcut
  cases kq with
  | zero => exact absurd HA.out (by simp [r03_Pack.j0])
  | succ kj2 =>
   have H := HA.out
   clear HA
   simp only [r03_Pack.j0] at H
   by_cases c5 : x14_2 = true
   ·
    subst c5
    have H1 : (some (([] : List Int), 1)) = some (r1, r2) := by rw [if_pos rfl] at H; exact H
    clear H
    have H := H1
    clear H1
    simp only [Option.some.injEq, Prod.mk.injEq] at H
    obtain ⟨rfl, rfl⟩ := H
    go_wp2
    go_ret2
    exact ⟨_, by first | rfl | (simp [errW_none, errW_some] <;> rfl) | (simp [*, errW_none, errW_some] <;> rfl), by first | exact Kd.R_nil _ _ _ _ _ | exact Kd.N_nil _ _ _ _ _ | exact Kd.V_nil _ _ _ _ _ | exact Kd.Q_nil _ _ _ _ _ | exact Kd.S_nil _ _ _ _ _, xB HB.out⟩
   ·
    replace c5 := Bool.eq_false_iff.mpr c5
    subst c5
    have H1 : ((r03_Size.f (l0.length : Int) a1).bind fun t460 => (if 0 ≤ t460 then (if (t460 : Int).toNat ≤ 281474976710656 then (r03_Pack.l0 kj2 l0 a1 (List.replicate (t460 : Int).toNat 0) 0) else (none)) else (none))) = some (r1, r2) := by rw [if_neg (show ¬ (false = true) by decide)] at H; exact H
    clear H
    have H := H1
    clear H1
    replace H := Option.bind_eq_some_iff.mp H
    obtain ⟨t460, A60, H⟩ := H
    replace H : (if 0 ≤ t460 then (if (t460 : Int).toNat ≤ 281474976710656 then (r03_Pack.l0 kj2 l0 a1 (List.replicate (t460 : Int).toNat 0) 0) else (none)) else (none)) = some (r1, r2) := H
    have A6 := aM A60
    clear A60
    by_cases c7 : 0 ≤ t460
    ·
     rw [if_pos c7] at H
     have c7b0 := eq_true c7
     have c7b1 : decide (0 ≤ t460) = true := decide_eq_true c7
     clear c7
     by_cases c8 : (t460 : Int).toNat ≤ 281474976710656
     ·
      rw [if_pos c8] at H
      have c8b0 := eq_true c8
      have c8b1 : decide ((t460 : Int).toNat ≤ 281474976710656) = true := decide_eq_true c8
      clear c8
      obtain ⟨y461, hy461⟩ : ∃ y_ : List Int, y_ = (List.replicate (t460 : Int).toNat 0) := ⟨_, rfl⟩
      replace H : (r03_Pack.l0 kj2 l0 a1 y461 0) = some (r1, r2) := by first | (rw [hy461]; with_reducible exact H) | (have H2_ := (Option.bind_some _ _).symm.trans H; rw [hy461]; with_reducible exact H2_) | (have H2_ := (Option.bind_some _ _).symm.trans H; with_reducible exact H2_) | with_reducible exact H | (rw [hy461]; exact H) | exact H
      have Ny461 := aM hy461
      clear hy461
      have H' := aM H
      clear H
      go_wp2_with (first | ((with_reducible refine gate_callee (f := 90) rfl ?_); refine goesL_ (some 18) rfl rfl Try.func90 (by kernel_rfl) rfl #[.int .i64 (l0.length : Int), .int .i64 a1] rfl (by (try simp only [List.map_toArray, List.map_cons, List.map_nil]); first | done | rfl | (simp only [List.length_drop, List.length_take]; rfl)) ?_; (with_reducible refine (r03_Size.calls (l0.length : Int) a1 t460 _ A6.out).mono ?_); rintro e w' ⟨rfl, ⟨nd, rfl⟩⟩; refine ⟨_, rfl, ?_⟩) | ((with_reducible refine gate_dst (N := 19) rfl ?_); refine Kd.R_make (Kd.int .u8) _ 5 rfl (N := 19) rfl 22 _ _ rfl t460 rfl rfl Try.underlying22 (.int .u8 0) 1 info5 rfl (by decide) (by omega) 0 (ok := fun _ => True) (okp := fun _ => True) rfl (fun _ hk => hk) trivial (of_decide_eq_true (by first | (with_reducible assumption) | assumption)) (Nat.le_trans (Nat.mul_le_mul_right _ (of_decide_eq_true (by first | (with_reducible assumption) | assumption) : t460.toNat ≤ 281474976710656)) (by omega)) (Below.refl _ _) (Nat.le_refl _) ?_; intro v462 w9 ho10 hb hg_ hnew_; clear hg_ hnew_; (first | rw [← Ny461.out] at ho10 | (simp only [Int.reduceToNat] at ho10; rw [← Ny461.out] at ho10)); have n0_ := aM (Kd.R_lower ho10 (below_size (xB HB.out))); have n1_ := aM (below_step (xB HB.out) hb); clear HB; have HO463 := n0_; have HB := n1_; clear n0_ n1_; clear hb ho10))
      go_loopg [7] kj2 (fun kq v7 w' => ∃ (x6_2 : List Int) (x7_2 : Int), v7 = .int .i64 x7_2 ∧ Aside0 (r03_Pack.l0 kq l0 a1 x6_2 x7_2 = some (r1, r2)) ∧ Aside0 (kq ≤ kj2) ∧ Aside0 (Kd.R (Kd.int .u8) 5 w' w.heap.size (fun _ => True) v462 x6_2) ∧ Aside0 (Below w.heap.size w w'))
      case atStart => exact ⟨(y461), (0), (by first | rfl | (simp; done) | (simp [*]; done)), H', ⟨Nat.le_refl _⟩, ⟨by (with_reducible repeat (first | apply Kd.R_alloc | apply Kd.R_drewN | apply Kd.R_drew)); exact HO463.out⟩, ⟨xB HB.out⟩⟩
      case round =>
       clear H'
       try clear c1
       try clear p2
       try clear c4
       try clear c4b0
       try clear c5
       try clear c7
       try clear c7b0
       try clear c7b1
       try clear c8
       try clear c8b0
       try clear c8b1
       try clear c9
       try clear c10
       try clear p2
       obtain ⟨x6_2, x7_2, rfl, HA, HK2, HO_6, HB⟩ := hrel
       cases gk with
       | zero => exact absurd HA.out (by simp [r03_Pack.l0])
       | succ k2 =>
        have H := HA.out
        clear HA
        simp only [r03_Pack.l0] at H
        by_cases c11 : x7_2 < (l0.length : Int)
        ·
         rw [if_pos c11] at H
         have c11b0 : decide (x7_2 < (l0.length : Int)) = true := decide_eq_true c11
         clear c11
         by_cases c12 : 0 ≤ x7_2
         ·
          rw [if_pos c12] at H
          have c12b0 : decide (0 ≤ x7_2) = true := decide_eq_true c12
          clear c12
          replace H := Option.bind_eq_some_iff.mp H
          obtain ⟨t465, A130, H⟩ := H
          replace H : (if t465 = true then (r03_Pack.l1 k2 l0 a1 x6_2 x7_2 0) else (some (([] : List Int), 7))) = some (r1, r2) := H
          have A13 := aM A130
          clear A130
          by_cases c14 : t465 = true
          ·
           subst c14
           have H1 : (r03_Pack.l1 k2 l0 a1 x6_2 x7_2 0) = some (r1, r2) := by rw [if_pos rfl] at H; exact H
           clear H
           have H := H1
           clear H1
           have H' := aM H
           clear H
           have p464 : 0 ≤ (x7_2 : Int) := of_decide_eq_true (by first | (with_reducible assumption) | assumption)
           have q464 : x7_2 < (l0.length : Int) := of_decide_eq_true (by first | (with_reducible assumption) | assumption)
           obtain ⟨ad464, e464, hx464_0⟩ := Kd.at_int HR0.out x7_2 p464 q464
           cases e464
           replace hx464_0 := (HB.out.cell (World.block_lt_of_cell? w _ hx464_0)).trans hx464_0
           replace p464 := eq_true p464
           replace q464 := eq_true q464
           go_wp2_with (first | ((with_reducible refine gate_callee (f := 114) rfl ?_); refine goesL_ (some 31) rfl rfl Try.func114 (by kernel_rfl) rfl #[.int .u64 (rd l0 x7_2), .int .i64 a1] rfl (by (try simp only [List.map_toArray, List.map_cons, List.map_nil]); first | done | rfl | (simp only [List.length_drop, List.length_take]; rfl)) ?_; (with_reducible refine (r03_Fits.calls (rd l0 x7_2) a1 true _ A13.out).mono ?_); rintro e w' ⟨rfl, ⟨nd, rfl⟩⟩; refine ⟨_, rfl, ?_⟩))
           go_loopg [8] k2 (fun kq v8 w' => ∃ (x6_3 : List Int) (x8_3 : Int), v8 = .int .i64 x8_3 ∧ Aside0 (r03_Pack.l1 kq l0 a1 x6_3 x7_2 x8_3 = some (r1, r2)) ∧ Aside0 (kq ≤ k2) ∧ Aside0 (Kd.R (Kd.int .u8) 5 w' w.heap.size (fun _ => True) v462 x6_3) ∧ Aside0 (Below w.heap.size w w'))
           case atStart => exact ⟨(x6_2), (0), (by first | rfl | (simp; done) | (simp [*]; done)), H', ⟨Nat.le_refl _⟩, ⟨by (with_reducible repeat (first | apply Kd.R_alloc | apply Kd.R_drewN | apply Kd.R_drew)); exact HO_6.out⟩, ⟨xB HB.out⟩⟩
           case round =>
            clear H'
            try clear c1
            try clear p2
            try clear c4
            try clear c4b0
            try clear p4
            try clear q4
            try clear hx4
            try clear c5
            try clear c7
            try clear c7b0
            try clear c7b1
            try clear c8
            try clear c8b0
            try clear c8b1
            try clear c9
            try clear c10
            try clear c11
            try clear c11b0
            try clear c12
            try clear c12b0
            try clear c14
            try clear hx464_0
            try clear p2
            try clear p464
            try clear q464
            obtain ⟨x6_3, x8_3, rfl, HA, HK3, HO_6, HB⟩ := hrel
            cases gk with
            | zero => exact absurd HA.out (by simp [r03_Pack.l1])
            | succ k3 =>
             have H := HA.out
             clear HA
             simp only [r03_Pack.l1] at H
             by_cases c15 : x8_3 < a1
             ·
              rw [if_pos c15] at H
              have c15b0 : decide (x8_3 < a1) = true := decide_eq_true c15
              clear c15
              by_cases c16 : 0 ≤ x7_2
              ·
               rw [if_pos c16] at H
               have c16b0 : decide (0 ≤ x7_2) = true := decide_eq_true c16
               clear c16
               by_cases c17 : x7_2 < (l0.length : Int)
               ·
                rw [if_pos c17] at H
                have c17b0 : decide (x7_2 < (l0.length : Int)) = true := decide_eq_true c17
                clear c17
                by_cases c18 : 0 ≤ x8_3
                ·
                 rw [if_pos c18] at H
                 have c18b0 := eq_true c18
                 have c18b1 : decide (0 ≤ x8_3) = true := decide_eq_true c18
                 clear c18
                 obtain ⟨ji19, hji19⟩ : ∃ j_ : Int, (shr .u64 (rd l0 x7_2) x8_3) = j_ := ⟨_, rfl⟩
                 replace H : (if (Int.tmod (ji19) 2) = 1 then (if 0 ≤ (wrap64 (Int.tdiv (wrap64 ((wrap64 (x7_2 * a1)) + x8_3)) 8)) then (if (wrap64 (Int.tdiv (wrap64 ((wrap64 (x7_2 * a1)) + x8_3)) 8)) < (x6_3.length : Int) then (if 0 ≤ (Int.tmod (wrap64 ((wrap64 (x7_2 * a1)) + x8_3)) 8) then (r03_Pack.l1 k3 l0 a1 (x6_3.set ((wrap64 (Int.tdiv (wrap64 ((wrap64 (x7_2 * a1)) + x8_3)) 8)) : Int).toNat (((rd x6_3 (wrap64 (Int.tdiv (wrap64 ((wrap64 (x7_2 * a1)) + x8_3)) 8))) + (shl .u8 1 (Int.tmod (wrap64 ((wrap64 (x7_2 * a1)) + x8_3)) 8))) % 256)) x7_2 (wrap64 (x8_3 + 1))) else (none)) else (none)) else (none)) else (r03_Pack.l1 k3 l0 a1 x6_3 x7_2 (wrap64 (x8_3 + 1)))) = some (r1, r2) := by first | (rw [hji19] at H; exact H) | (simp only [hji19] at H ⊢; exact H)
                 have hji19_ : ((rd l0 x7_2) / 2 ^ min x8_3.toNat 64) = ji19 := hji19
                 have hji19z : x8_3 ≤ 64 → ((rd l0 x7_2) / 2 ^ x8_3.toNat) = ji19 := shr_small hji19
                 by_cases c20 : (Int.tmod (ji19) 2) = 1
                 ·
                  rw [if_pos c20] at H
                  have c20b0 : ((Int.tmod (ji19) 2) == 1) = true := beq_iff_eq.mpr c20
                  have c20b1 : ((Int.tmod (ji19) 2) != 1) = false := bne_eq_false_iff_eq.mpr c20
                  clear c20
                  obtain ⟨ji21, hji21⟩ : ∃ j_ : Int, (wrap64 (Int.tdiv (wrap64 ((wrap64 (x7_2 * a1)) + x8_3)) 8)) = j_ := ⟨_, rfl⟩
                  replace H : (if 0 ≤ (ji21) then (if (ji21) < (x6_3.length : Int) then (if 0 ≤ (Int.tmod (wrap64 ((wrap64 (x7_2 * a1)) + x8_3)) 8) then (r03_Pack.l1 k3 l0 a1 (x6_3.set ((ji21) : Int).toNat (((rd x6_3 (ji21)) + (shl .u8 1 (Int.tmod (wrap64 ((wrap64 (x7_2 * a1)) + x8_3)) 8))) % 256)) x7_2 (wrap64 (x8_3 + 1))) else (none)) else (none)) else (none)) = some (r1, r2) := by first | (rw [hji21] at H; exact H) | (simp only [hji21] at H ⊢; exact H)
                  have hji21w : (IntKind.i64.wrap (Int.tdiv (wrap64 ((wrap64 (x7_2 * a1)) + x8_3)) 8)) = ji21 := (i64_w _).trans hji21
                  by_cases c22 : 0 ≤ (ji21)
                  ·
                   rw [if_pos c22] at H
                   have c22b0 : decide (0 ≤ (ji21)) = true := decide_eq_true c22
                   clear c22
                   by_cases c23 : (ji21) < (x6_3.length : Int)
                   ·
                    rw [if_pos c23] at H
                    have c23b0 : decide ((ji21) < (x6_3.length : Int)) = true := decide_eq_true c23
                    clear c23
                    obtain ⟨ji24, hji24⟩ : ∃ j_ : Int, (Int.tmod (wrap64 ((wrap64 (x7_2 * a1)) + x8_3)) 8) = j_ := ⟨_, rfl⟩
                    replace H : (if 0 ≤ (ji24) then (r03_Pack.l1 k3 l0 a1 (x6_3.set ((ji21) : Int).toNat (((rd x6_3 (ji21)) + (shl .u8 1 (ji24))) % 256)) x7_2 (wrap64 (x8_3 + 1))) else (none)) = some (r1, r2) := by first | (rw [hji24] at H; exact H) | (simp only [hji24] at H ⊢; exact H)
                    by_cases c25 : 0 ≤ (ji24)
                    ·
                     rw [if_pos c25] at H
                     have c25b0 := eq_true c25
                     have c25b1 : decide (0 ≤ (ji24)) = true := decide_eq_true c25
                     clear c25
                     obtain ⟨ji26, hji26⟩ : ∃ j_ : Int, (shl .u8 1 (ji24)) = j_ := ⟨_, rfl⟩
                     replace H : (r03_Pack.l1 k3 l0 a1 (x6_3.set ((ji21) : Int).toNat (((rd x6_3 (ji21)) + (ji26)) % 256)) x7_2 (wrap64 (x8_3 + 1))) = some (r1, r2) := by first | (rw [hji26] at H; exact H) | (simp only [hji26] at H ⊢; exact H)
                     have hji26_ : (IntKind.u8.wrap (1 * 2 ^ min (ji24).toNat 8)) = ji26 := hji26
                     have hji26z : (ji24) ≤ 8 → (IntKind.u8.wrap (1 * 2 ^ (ji24).toNat)) = ji26 := shl_small hji26
                     have hji26u : (IntKind.u8.wrap (2 ^ min (ji24).toNat 8)) = ji26 := by have h_ := hji26_; rw [Int.one_mul] at h_; exact h_
                     have hji26v : (ji24) ≤ 8 → (IntKind.u8.wrap (2 ^ (ji24).toNat)) = ji26 := fun hle_ => by have h_ := hji26z hle_; rw [Int.one_mul] at h_; exact h_
                     obtain ⟨y468, hy468⟩ : ∃ y_ : List Int, y_ = (x6_3.set ((ji21) : Int).toNat (((rd x6_3 (ji21)) + (ji26)) % 256)) := ⟨_, rfl⟩
                     replace H : (r03_Pack.l1 k3 l0 a1 y468 x7_2 (wrap64 (x8_3 + 1))) = some (r1, r2) := by first | (rw [hy468]; with_reducible exact H) | (have H2_ := (Option.bind_some _ _).symm.trans H; rw [hy468]; with_reducible exact H2_) | (have H2_ := (Option.bind_some _ _).symm.trans H; with_reducible exact H2_) | with_reducible exact H | (rw [hy468]; exact H) | exact H
                     have Ny468 := aM hy468
                     clear hy468
                     have H' := aM H
                     clear H
                     have p466 : 0 ≤ (x7_2 : Int) := of_decide_eq_true (by first | (with_reducible assumption) | assumption)
                     have q466 : x7_2 < (l0.length : Int) := of_decide_eq_true (by first | (with_reducible assumption) | assumption)
                     obtain ⟨ad466, e466, hx466_0⟩ := Kd.at_int HR0.out x7_2 p466 q466
                     obtain rfl : ad464 = ad466 := (by injection e466)
                     replace hx466_0 := (HB.out.cell (World.block_lt_of_cell? w _ hx466_0)).trans hx466_0
                     replace p466 := eq_true p466
                     replace q466 := eq_true q466
                     try go_wp2
                     have n0_ := aM (Kd.R_drew HO_6.out)
                     have n1_ := aM (below_drew1 HB.out)
                     clear HO_6
                     clear HB
                     have HO_6 := n0_
                     have HB := n1_
                     clear n0_ n1_
                     obtain ⟨Ao29, co29, eo29⟩ := Kd.R_slice HO_6.out
                     (first | subst eo29 | (injection eo29 with f1_ f2_ f3_; have f4_ := f1_.symm; have f5_ := f3_.symm; clear f1_ f2_ f3_; subst f4_; subst f5_))
                     have p467 : 0 ≤ ((ji21) : Int) := of_decide_eq_true (by first | (with_reducible assumption) | assumption)
                     have q467 : (ji21) < (x6_3.length : Int) := of_decide_eq_true (by first | (with_reducible assumption) | assumption)
                     obtain ⟨ad467, e467, hx467_0⟩ := Kd.at_int (Kd.R_reads' HO_6.out).2.2 (ji21) p467 q467
                     cases e467
                     replace p467 := eq_true p467
                     replace q467 := eq_true q467
                     have p27 : 0 ≤ ((ji21) : Int) := of_decide_eq_true (by first | (with_reducible assumption) | assumption)
                     have q27 : ((ji21) : Int) < ((x6_3.length : Int) : Int) := of_decide_eq_true (by first | (with_reducible assumption) | assumption)
                     obtain ⟨go27, co27, eo27, gb27, gl27, cl27, HG27⟩ := Kd.R_form HO_6.out (by omega)
                     (first | cases eo27 | (injection eo27 with ea_ en_ ec_; (first | subst ea_ | (injection ea_ with ea_; subst ea_)); subst ec_; clear en_))
                     have GB27 := aM gb27
                     have GG27 := aM HG27
                     clear gb27 gl27 HG27
                     (first | simp only [add_plain] at hx467_0 | skip)
                     obtain ⟨hx27_0, hf27_0⟩ := Kd.R_celln 0 HO_6.out ((ji21) : Int) p27 q27
                     replace p27 := eq_true p27
                     replace q27 := eq_true q27
                     have HP30 := Kd.R_putn HO_6.out ((ji21) : Int) (((rd x6_3 (ji21)) + (ji26)) % 256)
                     rw [← Ny468.out] at HP30
                     have HQ30 := aM HP30
                     clear HP30
                     refine start_ (n := 19) (S := fun w' => w'.cell? ⟨go27, ((ji21)).toNat, none⟩ = some (.int .u8 (rd x6_3 (ji21)))) (ds := [18]) b0_ (by kernel_rfl) rfl rfl (hx467_0) (fun hHeld => ?_); refine with_tabW r03_Pack.tab13 r03_Pack.bits13 (fun HT_ HW_ => ?_)
                     generalize wr.drew = w28 at HO_6 HB GG27 HQ30 hf27_0 hx27_0 hx467_0 hHeld ⊢
                     refine pure_ (i := 0) (N := some 46) (v := ?_) (a' := ?_) b1_ rfl rfl (any_of HT_.out (by kernel_rfl)) (fun _ _ _ h => h) (Or.inl ⟨by rfl, ?_⟩) ?_ ?_; rotate_left; (· intro w'; go_simp; with_reducible rfl); rotate_left; (· simp only [xQ, i64_w, i32_w]; rfl)
                     refine pure_ (i := 1) (N := some 47) (v := ?_) (a' := ?_) b2_ rfl rfl (any_of HT_.out (by kernel_rfl)) (fun _ _ _ h => h) (Or.inl ⟨by rfl, ?_⟩) ?_ ?_; rotate_left; (· intro w'; go_simp; with_reducible rfl); rotate_left; (· simp only [xQ, i64_w, i32_w]; rfl)
                     refine pure_ (i := 2) (N := some 48) (v := ?_) (a' := ?_) b3_ rfl rfl (any_of HT_.out (by kernel_rfl)) (fun _ _ _ h => h) (Or.inl ⟨by rfl, ?_⟩) ?_ ?_; rotate_left; (· intro w'; go_simp; with_reducible rfl); rotate_left; (· simp only [xQ, i64_w, i32_w]; rfl)
                     refine pure_ (i := 3) (N := some 49) (v := ?_) (a' := ?_) b4_ rfl rfl (any_of HT_.out (by kernel_rfl)) (fun _ _ _ h => h) (Or.inl ⟨by rfl, ?_⟩) ?_ ?_; rotate_left; (· intro w'; go_simp; with_reducible rfl); rotate_left; (· simp only [xQ, i64_w, i32_w]; rfl)
                     refine pure_ (i := 4) (N := some 50) (v := ?_) (a' := ?_) b5_ rfl rfl (any_of HT_.out (by kernel_rfl)) (fun _ _ _ h => h) (Or.inl ⟨by rfl, ?_⟩) ?_ ?_; rotate_left; (· intro w'; go_simp; with_reducible rfl); rotate_left; (· simp only [xQ, i64_w, i32_w]; rfl)
                     refine pure_ (i := 5) (N := some 51) (v := ?_) (a' := ?_) b6_ rfl rfl (any_of HT_.out (by kernel_rfl)) (fun _ _ _ h => h) (Or.inl ⟨by rfl, ?_⟩) ?_ ?_; rotate_left; (· intro w'; go_simp; with_reducible rfl); rotate_left; (· simp only [xQ, i64_w, i32_w]; rfl)
                     refine pure_ (i := 6) (N := some 52) (v := ?_) (a' := ?_) b7_ rfl rfl (any_of HT_.out (by kernel_rfl)) (fun _ _ _ h => h) (Or.inl ⟨by rfl, ?_⟩) ?_ ?_; rotate_left; (· intro w'; go_simp; with_reducible rfl); rotate_left; (· simp only [xQ, i64_w, i32_w]; rfl)
                     refine pure_ (i := 7) (N := some 53) (v := ?_) (a' := ?_) b8_ rfl rfl (any_of HT_.out (by kernel_rfl)) (fun _ _ _ h => h) (Or.inl ⟨by rfl, ?_⟩) ?_ ?_; rotate_left; (· intro w'; go_simp; with_reducible rfl); rotate_left; (· simp only [xQ, i64_w, i32_w]; rfl)
                     refine pure_ (i := 9) (N := some 55) (v := ?_) (a' := ?_) b9_ rfl rfl (any_of HT_.out (by kernel_rfl)) (fun _ _ _ h => h) (Or.inl ⟨by rfl, ?_⟩) ?_ ?_; rotate_left; (· intro w'; go_simp; with_reducible rfl); rotate_left; (· simp only [xQ, i64_w, i32_w]; rfl)
                     refine pure_ (i := 10) (N := some 56) (v := ?_) (a' := ?_) b10_ rfl rfl (any_of HT_.out (by kernel_rfl)) (fun _ _ _ h => h) (Or.inl ⟨by rfl, ?_⟩) ?_ ?_; rotate_left; (· intro w'; go_simp; with_reducible rfl); rotate_left; (· simp only [xQ, i64_w, i32_w]; rfl)
                     refine pure_ (i := 11) (N := some 57) (v := ?_) (a' := ?_) b11_ rfl rfl (any_of HT_.out (by kernel_rfl)) (fun _ _ _ h => h) (Or.inl ⟨by rfl, ?_⟩) ?_ ?_; rotate_left; (· intro w'; go_simp; with_reducible rfl); rotate_left; (· simp only [xQ, i64_w, i32_w]; rfl)
                     refine pure_ (i := 12) (N := some 58) (v := ?_) (a' := ?_) b12_ rfl rfl (any_of HT_.out (by kernel_rfl)) (fun _ _ _ h => h) (Or.inl ⟨by rfl, ?_⟩) ?_ ?_; rotate_left; (· intro w'; go_simp; with_reducible rfl); rotate_left; (· simp only [xQ, i64_w, i32_w]; rfl)
                     refine pure_ (i := 13) (N := some 59) (v := ?_) (a' := ?_) b13_ rfl rfl (any_of HT_.out (by kernel_rfl)) (fun _ _ _ h => h) (Or.inl ⟨by rfl, ?_⟩) ?_ ?_; rotate_left; (· intro w'; go_simp; with_reducible rfl); rotate_left; (· simp only [xQ, i64_w, i32_w]; rfl)
                     refine pure_ (i := 14) (N := some 60) (v := ?_) (a' := ?_) b14_ rfl rfl (any_of HT_.out (by kernel_rfl)) (fun _ _ _ h => h) (Or.inl ⟨by rfl, ?_⟩) ?_ ?_; rotate_left; (· intro w'; go_simp; with_reducible rfl); rotate_left; (· simp only [xQ, i64_w, i32_w]; rfl)
                     refine pure_ (i := 15) (N := some 61) (v := ?_) (a' := ?_) b15_ rfl rfl (any_of HT_.out (by kernel_rfl)) (fun _ _ _ h => h) (Or.inl ⟨by rfl, ?_⟩) ?_ ?_; rotate_left; (· intro w'; go_simp; with_reducible rfl); rotate_left; (· simp only [xQ, i64_w, i32_w]; rfl)
                     refine take_ (i := 8) (N := some 54) (v := ?_) (a' := ?_) b16_ rfl rfl (take_ofW HT_.out HW_.out (by kernel_rfl)) (fun _ _ _ h => h) (Or.inl ⟨by rfl, ?_⟩) hHeld ?_ ?_
                     rotate_left
                     ·
                      intro w' s0
                      go_simp
                      with_reducible rfl
                     rotate_left
                     ·
                      simp only [xQ, i64_w, i32_w]
                      rfl
                     refine pure_ (i := 16) (N := some 62) (v := ?_) (a' := ?_) b17_ rfl rfl (any_of HT_.out (by kernel_rfl)) (fun _ _ _ h => h) (Or.inl ⟨by rfl, ?_⟩) ?_ ?_; rotate_left; (· intro w'; go_simp; with_reducible rfl); rotate_left; (· simp only [xQ, i64_w, i32_w]; rfl)
                     refine pure_ (i := 17) (N := some 63) (v := ?_) (a' := ?_) b18_ rfl rfl (any_of HT_.out (by kernel_rfl)) (fun _ _ _ h => h) (Or.inl ⟨by rfl, ?_⟩) ?_ ?_; rotate_left; (· intro w'; go_simp; with_reducible rfl); rotate_left; (· simp only [xQ, i64_w, i32_w]; rfl)
                     refine last_ (i := 18) (N := none) b19_ rfl rfl (one_of HT_.out (by kernel_rfl)) (by decide) (fun K hK => ?_)
                     refine skip_ (w1 := ?_) (by rfl) rfl ?_ ?_
                     rotate_left
                     ·
                      go_simp
                      rfl
                     refine hK.out _ _ ?_
                     clear hK K
                     refine done_ (done_of HT_.out (by kernel_rfl)) ?_
                     try go_wp2
                     go_roundg k3
                     case measure => have := HJ2.out; have := HK2.out; have := HK3.out; omega
                     case rel => exact ⟨(y468), (wrap64 (x8_3 + 1)), (by first | rfl | (simp; done) | (simp [*]; done)), H', ⟨by have := HJ2.out; have := HK2.out; have := HK3.out; omega⟩, ⟨by (with_reducible repeat (first | apply Kd.R_alloc | apply Kd.R_drewN | apply Kd.R_drew)); exact HQ30.out⟩, ⟨by repeat (first | (with_reducible first | exact HB.out | apply below_alloc | apply pw_below_drewN | apply below_drew1 | refine below_set ?_ GB27.out) | exact HB.out)⟩⟩
                    ·
                     rw [if_neg c25] at H
                     exact absurd H (by simp)
                   ·
                    rw [if_neg c23] at H
                    exact absurd H (by simp)
                  ·
                   rw [if_neg c22] at H
                   exact absurd H (by simp)
                 ·
                  rw [if_neg c20] at H
                  have c20b0 : ((Int.tmod (ji19) 2) == 1) = false := beq_eq_false_iff_ne.mpr c20
                  have c20b1 : ((Int.tmod (ji19) 2) != 1) = true := bne_iff_ne.mpr c20
                  have H' := aM H
                  clear H
                  have p466 : 0 ≤ (x7_2 : Int) := of_decide_eq_true (by first | (with_reducible assumption) | assumption)
                  have q466 : x7_2 < (l0.length : Int) := of_decide_eq_true (by first | (with_reducible assumption) | assumption)
                  obtain ⟨ad466, e466, hx466_0⟩ := Kd.at_int HR0.out x7_2 p466 q466
                  obtain rfl : ad464 = ad466 := (by injection e466)
                  replace hx466_0 := (HB.out.cell (World.block_lt_of_cell? w _ hx466_0)).trans hx466_0
                  replace p466 := eq_true p466
                  replace q466 := eq_true q466
                  go_wp2
                  go_roundg k3
                  case measure => have := HJ2.out; have := HK2.out; have := HK3.out; omega
                  case rel => exact ⟨(x6_3), (wrap64 (x8_3 + 1)), (by first | rfl | (simp; done) | (simp [*]; done)), H', ⟨by have := HJ2.out; have := HK2.out; have := HK3.out; omega⟩, ⟨by (with_reducible repeat (first | apply Kd.R_alloc | apply Kd.R_drewN | apply Kd.R_drew)); exact HO_6.out⟩, ⟨xB HB.out⟩⟩
                ·
                 rw [if_neg c18] at H
                 exact absurd H (by simp)
               ·
                rw [if_neg c17] at H
                exact absurd H (by simp)
              ·
               rw [if_neg c16] at H
               exact absurd H (by simp)
             ·
              rw [if_neg c15] at H
              have c15b0 : decide (x8_3 < a1) = false := decide_eq_false c15
              clear c15
              have H' := aM H
              clear H
              go_wp2
              go_roundg k3
              case measure => have := HJ2.out; have := HK2.out; have := HK3.out; omega
              case rel => exact ⟨(x6_3), (wrap64 (x7_2 + 1)), (by first | rfl | (simp; done) | (simp [*]; done)), H', ⟨by have := HJ2.out; have := HK2.out; have := HK3.out; omega⟩, ⟨by (with_reducible repeat (first | apply Kd.R_alloc | apply Kd.R_drewN | apply Kd.R_drew)); exact HO_6.out⟩, ⟨xB HB.out⟩⟩
          ·
           replace c14 := Bool.eq_false_iff.mpr c14
           subst c14
           have H1 : (some (([] : List Int), 7)) = some (r1, r2) := by rw [if_neg (show ¬ (false = true) by decide)] at H; exact H
           clear H
           have H := H1
           clear H1
           simp only [Option.some.injEq, Prod.mk.injEq] at H
           obtain ⟨rfl, rfl⟩ := H
           have p464 : 0 ≤ (x7_2 : Int) := of_decide_eq_true (by first | (with_reducible assumption) | assumption)
           have q464 : x7_2 < (l0.length : Int) := of_decide_eq_true (by first | (with_reducible assumption) | assumption)
           obtain ⟨ad464, e464, hx464_0⟩ := Kd.at_int HR0.out x7_2 p464 q464
           cases e464
           replace hx464_0 := (HB.out.cell (World.block_lt_of_cell? w _ hx464_0)).trans hx464_0
           replace p464 := eq_true p464
           replace q464 := eq_true q464
           go_wp2_with (first | ((with_reducible refine gate_callee (f := 114) rfl ?_); refine goesL_ (some 31) rfl rfl Try.func114 (by kernel_rfl) rfl #[.int .u64 (rd l0 x7_2), .int .i64 a1] rfl (by (try simp only [List.map_toArray, List.map_cons, List.map_nil]); first | done | rfl | (simp only [List.length_drop, List.length_take]; rfl)) ?_; (with_reducible refine (r03_Fits.calls (rd l0 x7_2) a1 false _ A13.out).mono ?_); rintro e w' ⟨rfl, ⟨nd, rfl⟩⟩; refine ⟨_, rfl, ?_⟩))
           go_ret2
           exact ⟨_, by first | rfl | (simp [errW_none, errW_some] <;> rfl) | (simp [*, errW_none, errW_some] <;> rfl), by first | exact Kd.R_nil _ _ _ _ _ | exact Kd.N_nil _ _ _ _ _ | exact Kd.V_nil _ _ _ _ _ | exact Kd.Q_nil _ _ _ _ _ | exact Kd.S_nil _ _ _ _ _, xB HB.out⟩
         ·
          rw [if_neg c12] at H
          exact absurd H (by simp)
        ·
         rw [if_neg c11] at H
         have c11b0 : decide (x7_2 < (l0.length : Int)) = false := decide_eq_false c11
         clear c11
         simp only [Option.some.injEq, Prod.mk.injEq] at H
         obtain ⟨rfl, rfl⟩ := H
         go_wp2
         go_ret2
         exact ⟨_, by first | rfl | (simp [errW_none, errW_some] <;> rfl) | (simp [*, errW_none, errW_some] <;> rfl), by (with_reducible repeat (first | apply Kd.R_alloc | apply Kd.R_drewN | apply Kd.R_drew)); exact HO_6.out, xB HB.out⟩
     ·
      rw [if_neg c8] at H
      exact absurd H (by simp)
    ·
     rw [if_neg c7] at H
     exact absurd H (by simp)
end Go.Proofs.Ythaifibhflfpkaa.Q
end
section
namespace Go.Proofs.Ythaifibhflfpkaa.Q
open Go.RowKit Go.Proofs.YthaifibhflfpkaaW.PrintWords Go.Proofs.YthaifibhflfpkaaW.PrintLast Go.Proofs.YthaifibhflfpkaaW.PrintMore Go.Proofs.YthaifibhflfpkaaX
namespace Law
def sumw (w : Nat) : List Nat → Nat
  | [] => 0
  | x :: r => x + 2 ^ w * sumw w r
def ints (a : List Nat) : List Int := a.map fun (x : Nat) => (x : Int)
theorem ints_length (a : List Nat) : (ints a).length = a.length := by simp [ints]
theorem rd_ints (a : List Nat) (i : Nat) : rd (ints a) (i : Int) = ((a.getD i 0 : Nat) : Int) := by
  rw [rd_nat]
  unfold ints
  rw [List.getD_eq_getElem?_getD, List.getD_eq_getElem?_getD, List.getElem?_map]
  cases a[i]? <;> rfl
theorem sumw_drop (w : Nat) : ∀ (a : List Nat) (i : Nat), (∀ x ∈ a, x < 2 ^ w) → sumw w a / 2 ^ (w * i) = sumw w (a.drop i)
  | a, 0, _ => by simp
  | [], i + 1, _ => by simp [sumw]
  | x :: r, i + 1, h => by
    have hx := h x (by simp)
    have ih := sumw_drop w r i (fun y hy => h y (by simp [hy]))
    rw [sumw, Nat.mul_add, Nat.mul_one, Nat.add_comm (w * i) w, Nat.pow_add, ← Nat.div_div_eq_div_mul, Nat.add_mul_div_left _ _ (Nat.two_pow_pos w), Nat.div_eq_of_lt hx, Nat.zero_add, ih]
    rfl
theorem sumw_at (w : Nat) (a : List Nat) (i : Nat) (h : ∀ x ∈ a, x < 2 ^ w) : sumw w a / 2 ^ (w * i) % 2 ^ w = a.getD i 0 := by
  rw [sumw_drop w a i h]
  by_cases hi : i < a.length
  · rw [List.drop_eq_getElem_cons hi, sumw, Nat.add_mul_mod_self_left, List.getD_eq_getElem?_getD, List.getElem?_eq_getElem hi]
    exact Nat.mod_eq_of_lt (h _ (List.getElem_mem hi))
  · rw [List.drop_eq_nil_of_le (by omega), List.getD_eq_getElem?_getD, List.getElem?_eq_none (by omega)]
    simp [sumw]
theorem sumw_lt (w : Nat) (a : List Nat) (h : ∀ x ∈ a, x < 2 ^ w) : sumw w a < 2 ^ (w * a.length) := by
  have e := sumw_drop w a a.length h
  rw [List.drop_length] at e
  rcases Nat.div_eq_zero_iff.1 e with h0 | h0
  · exact absurd h0 (Nat.ne_of_gt (Nat.two_pow_pos _))
  · exact h0
theorem le_snoc : ∀ (n a : Nat), le a (n + 1) = le a n ++ [((a / 2 ^ (8 * n) % 256 : Nat) : Int)]
  | 0, a => by simp [le]
  | n + 1, a => by
    rw [le, le_snoc n (a / 256), le, Nat.div_div_eq_div_mul, show 256 * 2 ^ (8 * n) = 2 ^ (8 * (n + 1)) by rw [Nat.mul_add, Nat.pow_add, Nat.mul_comm]]
    rfl
theorem le_get : ∀ (n a j : Nat), j < n → (le a n)[j]? = some ((a / 2 ^ (8 * j) % 256 : Nat) : Int)
  | 0, a, j, h => absurd h (by omega)
  | n + 1, a, 0, h => by simp [le]
  | n + 1, a, j + 1, h => by
    rw [le, List.getElem?_cons_succ, le_get n (a / 256) j (by omega), Nat.div_div_eq_div_mul, show 256 * 2 ^ (8 * j) = 2 ^ (8 * (j + 1)) by rw [Nat.mul_add, Nat.pow_add, Nat.mul_comm]]
theorem le_zero : ∀ n, le 0 n = List.replicate n 0
  | 0 => rfl
  | n + 1 => by
    rw [le, List.replicate_succ]
    have := le_zero n
    simp [this]
theorem le_set (n M T : Nat) (hM : M < 2 ^ T) (hT : T / 8 < n) : (le M n).set (T / 8) ((rd (le M n) ((T / 8 : Nat) : Int) + ((2 ^ (T % 8) : Nat) : Int)) % 256) = le (M + 2 ^ T) n := by
  apply List.ext_getElem?
  intro j
  by_cases hj : j < n
  · rw [le_get n _ j hj]
    by_cases he : j = T / 8
    · subst he
      rw [List.getElem?_set_self (by rw [le_length]; exact hT), rd_nat, List.getD_eq_getElem?_getD, le_get n M _ hj, Option.getD_some]
      have e : 2 ^ T = 2 ^ (8 * (T / 8)) * 2 ^ (T % 8) := by rw [← Nat.pow_add]; congr 1; omega
      rw [e, Nat.add_mul_div_left _ _ (Nat.two_pow_pos _)]
      congr 1
      omega
    · rw [List.getElem?_set_ne (by omega), le_get n M j hj]
      congr 2
      by_cases hlt : j < T / 8
      · have e : 2 ^ T = 2 ^ (8 * j) * (256 * 2 ^ (T - 8 * j - 8)) := by
          rw [show (256 : Nat) = 2 ^ 8 by rfl, ← Nat.pow_add, ← Nat.pow_add]
          congr 1
          omega
        rw [e, Nat.add_mul_div_left _ _ (Nat.two_pow_pos _)]
        omega
      · have h1 : 2 ^ (T + 1) ≤ 2 ^ (8 * j) := Nat.pow_le_pow_right (by decide) (by omega)
        rw [Nat.pow_succ] at h1
        rw [Nat.div_eq_of_lt (by omega), Nat.div_eq_of_lt (by omega)]
  · rw [List.getElem?_eq_none (by rw [List.length_set, le_length]; omega), List.getElem?_eq_none (by rw [le_length]; omega)]
theorem shr_nat (a n : Nat) (hn : n ≤ 64) : shr .u64 (a : Int) (n : Int) = ((a / 2 ^ n : Nat) : Int) := by
  unfold shr
  rw [Int.toNat_natCast, Nat.min_eq_left (show n ≤ IntKind.u64.bits from hn)]
  simp
theorem fits (a w : Nat) (hw : w ≤ 64) (h : a < 2 ^ w) : r03_Fits.f (a : Int) (w : Int) = some true := by
  unfold r03_Fits.f
  split
  · rfl
  · rw [if_pos (by omega), shr_nat a w hw, Nat.div_eq_of_lt h]
    rfl
theorem tdiv8 (n : Nat) (h : n < 1000000000000) : wrap64 (Int.tdiv (n : Int) 8) = ((n / 8 : Nat) : Int) ∧ Int.tmod (n : Int) 8 = ((n % 8 : Nat) : Int) := by
  rw [Int.tmod_eq_emod_of_nonneg (by omega), Int.tdiv_eq_ediv_of_nonneg (by omega)]
  unfold wrap64
  omega
theorem place (i w j : Nat) (hi : i < 1000000) (hw : w ≤ 64) (hj : j ≤ 64) : wrap64 (wrap64 ((i : Int) * (w : Int)) + (j : Int)) = ((w * i + j : Nat) : Int) ∧ w * i + j < 1000000000 := by
  have h1 : i * w ≤ i * 64 := Nat.mul_le_mul_left i hw
  have h2 : w * i = i * w := Nat.mul_comm w i
  have e : (i : Int) * (w : Int) = ((i * w : Nat) : Int) := by simp
  rw [e, h2]
  generalize i * w = z at *
  unfold wrap64
  omega
theorem shl_u8 (n : Nat) (h : n < 8) : shl .u8 1 (n : Int) = ((2 ^ n : Nat) : Int) := by
  unfold shl
  rw [Int.toNat_natCast, Nat.min_eq_left (show n ≤ IntKind.u8.bits from (by omega : n ≤ 8))]
  have : n = 0 ∨ n = 1 ∨ n = 2 ∨ n = 3 ∨ n = 4 ∨ n = 5 ∨ n = 6 ∨ n = 7 := by omega
  rcases this with h | h | h | h | h | h | h | h <;> subst h <;> rfl
theorem refpack_in (w : Nat) (hw : w ≤ 64) (a : List Nat) (hl : a.length < 1000000) (hb : ∀ x ∈ a, x < 2 ^ w) (i : Nat) (hi : i < a.length) {R : List Int × Int}
    (hn : Ev (fun k => r03_Pack.l0 k (ints a) (w : Int) (le (sumw w a % 2 ^ (w * (i + 1))) ((w * a.length + 7) / 8)) ((i + 1 : Nat) : Int)) R) :
    ∀ (d j : Nat), j + d = w → Ev (fun k => r03_Pack.l1 k (ints a) (w : Int) (le (sumw w a % 2 ^ (w * i + j)) ((w * a.length + 7) / 8)) (i : Int) (j : Int)) R
  | 0, j, hj => by
    have e : j = w := by omega
    subst e
    refine Ev.step (fun k => ?_) hn
    rw [r03_Pack.l1, if_neg (by omega), w64_succ i (by omega), Nat.mul_succ]
  | d + 1, j, hj => by
    have ih := refpack_in w hw a hl hb i hi hn d (j + 1) (by omega)
    have hp := place i w j (by omega) hw (by omega)
    have HP := Lib.hid hp.1
    have hp2 := hp.2
    clear hp
    have h8 := tdiv8 (w * i + j) (by omega)
    have H8 := Lib.hid h8
    clear h8
    have hv : a.getD i 0 / 2 ^ j % 2 = sumw w a / 2 ^ (w * i + j) % 2 := by
      rw [← sumw_at w a i hb, Nat.pow_add (m := w * i), ← Nat.div_div_eq_div_mul]
      generalize sumw w a / 2 ^ (w * i) = z
      have e1 : z % 2 ^ w / 2 ^ j = z / 2 ^ j % 2 ^ (w - j) := by
        have : 2 ^ w = 2 ^ j * 2 ^ (w - j) := by rw [← Nat.pow_add]; congr 1; omega
        rw [this, Nat.mod_mul_right_div_self]
      rw [e1, Nat.mod_mod_of_dvd]
      exact ⟨2 ^ (w - j - 1), by rw [← Nat.pow_succ']; congr 1; omega⟩
    have hM : sumw w a % 2 ^ (w * i + (j + 1)) = sumw w a % 2 ^ (w * i + j) + 2 ^ (w * i + j) * (sumw w a / 2 ^ (w * i + j) % 2) := by
      rw [← Nat.add_assoc, Nat.pow_succ, Nat.mod_mul]
    have hlt : sumw w a % 2 ^ (w * i + j) < 2 ^ (w * i + j) := Nat.mod_lt _ (Nat.two_pow_pos _)
    have hT : (w * i + j) / 8 < (w * a.length + 7) / 8 := by
      have h1 : w * (i + 1) ≤ w * a.length := Nat.mul_le_mul_left w hi
      rw [Nat.mul_succ] at h1
      omega
    have hbit : Int.tmod (shr .u64 (rd (ints a) (i : Int)) (j : Int)) 2 = ((sumw w a / 2 ^ (w * i + j) % 2 : Nat) : Int) := by
      rw [rd_ints, shr_nat _ _ (by omega), Int.tmod_eq_emod_of_nonneg (Int.natCast_nonneg _), ← hv]
      rfl
    have HB := Lib.hid hbit
    have HV := Lib.hid hv
    clear hbit hv
    refine Ev.step (fun k => ?_) ih
    rw [r03_Pack.l1, if_pos (by omega), if_pos (by omega), if_pos (by rw [ints_length]; omega), if_pos (by omega), HB.out, HP.out, H8.out.1, H8.out.2, w64_succ j (by omega), hM]
    rcases Nat.mod_two_eq_zero_or_one (sumw w a / 2 ^ (w * i + j)) with h0 | h1
    · rw [h0, if_neg (by omega), Nat.mul_zero, Nat.add_zero (sumw w a % 2 ^ (w * i + j))]
    · rw [h1, if_pos (by omega), if_pos (by omega), if_pos (by rw [le_length]; omega), if_pos (by omega), Nat.mul_one, shl_u8 _ (Nat.mod_lt _ (by decide)), Int.toNat_natCast, le_set _ _ _ hlt hT]
theorem refpack_out (w : Nat) (hw : w ≤ 64) (a : List Nat) (hl : a.length < 1000000) (hb : ∀ x ∈ a, x < 2 ^ w) : ∀ (d i : Nat), i + d = a.length → Ev (fun k => r03_Pack.l0 k (ints a) (w : Int) (le (sumw w a % 2 ^ (w * i)) ((w * a.length + 7) / 8)) (i : Int)) (le (sumw w a) ((w * a.length + 7) / 8), 0)
  | 0, i, hi => by
    have e : i = a.length := by omega
    subst e
    refine Ev.step (f := fun _ => some _) (fun k => ?_) (Ev.now _)
    rw [r03_Pack.l0, ints_length, if_neg (by omega), Nat.mod_eq_of_lt (sumw_lt w a hb)]
  | d + 1, i, hi => by
    have ih := refpack_out w hw a hl hb d (i + 1) (by omega)
    have h := refpack_in w hw a hl hb i (by omega) ih w 0 (by omega)
    refine Ev.step (fun k => ?_) h
    rw [r03_Pack.l0, ints_length, if_pos (by omega), if_pos (by omega), rd_ints, fits _ w hw, Option.bind_some, if_pos rfl]
    · rfl
    · rw [← sumw_at w a i hb]
      exact Nat.mod_lt _ (Nat.two_pow_pos _)
theorem size_ref (n w : Nat) (hn : n < 1000000) (hw : w ≤ 64) : r03_Size.f (n : Int) (w : Int) = some (((w * n + 7) / 8 : Nat) : Int) := by
  unfold r03_Size.f
  have h := (place n w 7 hn hw (by omega))
  rw [show ((7 : Nat) : Int) = 7 by rfl] at h
  rw [h.1, (tdiv8 _ (by omega)).1]
theorem refpack (w : Nat) (hw : w ≤ 64) (a : List Nat) (hl : a.length < 1000000) (hb : ∀ x ∈ a, x < 2 ^ w) : Ev (fun k => r03_Pack.f k (ints a) (w : Int)) (le (sumw w a) ((w * a.length + 7) / 8), 0) := by
  unfold r03_Pack.f
  refine Ev.neg (by omega) ?_
  rw [decide_eq_false (by omega)]
  have h := refpack_out w hw a hl hb a.length 0 (by omega)
  have h64 : w * a.length ≤ 64 * a.length := Nat.mul_le_mul_right _ hw
  refine Ev.step (fun k => ?_) h
  rw [r03_Pack.j0, if_neg (by decide), ints_length, size_ref _ _ hl hw, Option.bind_some, if_pos (by omega), if_pos (by omega), Int.toNat_natCast, ← le_zero, Nat.mul_zero, Nat.pow_zero, Nat.mod_one]
  rfl
theorem byteI (z : Nat) (h : z < 256) : (z : Int) % 256 = z := by omega
theorem shl_nat (a n : Nat) (hn : n ≤ 64) (h : a * 2 ^ n < 2 ^ 64) : shl .u64 (a : Int) (n : Int) = ((a * 2 ^ n : Nat) : Int) := by
  unfold shl
  rw [Int.toNat_natCast, Nat.min_eq_left (show n ≤ IntKind.u64.bits from hn)]
  rw [show (a : Int) * 2 ^ n = ((a * 2 ^ n : Nat) : Int) by simp]
  exact wrapu _ h
theorem pack_step (N q has left n : Nat) (hhas : has < 8) (hleft : left ≤ 64) (hn : n = min left (8 - has)) :
    Go.bits .or .u64 ((N / 2 ^ (8 * q) % 2 ^ has : Nat) : Int) (shl .u64 (Go.bits .and .u64 ((N / 2 ^ (8 * q + has) % 2 ^ left : Nat) : Int) (IntKind.u64.wrap ((shl .u64 1 (n : Int)) - 1))) (has : Int)) = ((N / 2 ^ (8 * q) % 2 ^ (has + n) : Nat) : Int)
    ∧ shr .u64 ((N / 2 ^ (8 * q + has) % 2 ^ left : Nat) : Int) (n : Int) = ((N / 2 ^ (8 * q + (has + n)) % 2 ^ (left - n) : Nat) : Int) := by
  have hnl : n ≤ left := by omega
  have hn8 : has + n ≤ 8 := by omega
  have e64 : 2 ^ left = 2 ^ n * 2 ^ (left - n) := by rw [← Nat.pow_add]; congr 1; omega
  have p64 : (2 : Nat) ^ left ≤ 2 ^ 64 := Nat.pow_le_pow_right (by decide) hleft
  have pn : (2 : Nat) ^ n ≤ 2 ^ 8 := Nat.pow_le_pow_right (by decide) (by omega)
  have pn0 := Nat.two_pow_pos n
  have hv : N / 2 ^ (8 * q + has) % 2 ^ left < 2 ^ left := Nat.mod_lt _ (Nat.two_pow_pos _)
  constructor
  · have e1 : shl .u64 1 (n : Int) = ((2 ^ n : Nat) : Int) := by
      have := shl_nat 1 n (by omega) (by omega)
      rw [Nat.one_mul] at this
      exact this
    have e2 : IntKind.u64.wrap (((2 ^ n : Nat) : Int) - 1) = 2 ^ n - 1 := by
      rw [show ((2 ^ n : Nat) : Int) - 1 = ((2 ^ n - 1 : Nat) : Int) by omega, wrapu _ (by omega)]
      rw [Int.natCast_sub pn0]
      simp
    rw [e1, e2]
    rw [Go.bits_mask .u64 64 (by decide) wraps_u64 n (by omega) _ (by omega) (by
      have : N / 2 ^ (8 * q + has) % 2 ^ left < 2 ^ 64 := Nat.lt_of_lt_of_le hv p64
      exact_mod_cast this)]
    rw [show ((N / 2 ^ (8 * q + has) % 2 ^ left : Nat) : Int) % 2 ^ n = ((N / 2 ^ (8 * q + has) % 2 ^ n : Nat) : Int) by
      have e : N / 2 ^ (8 * q + has) % 2 ^ left % 2 ^ n = N / 2 ^ (8 * q + has) % 2 ^ n := Nat.mod_mod_of_dvd _ ⟨_, e64⟩
      rw [← e]
      simp]
    have hm : N / 2 ^ (8 * q + has) % 2 ^ n < 2 ^ n := Nat.mod_lt _ pn0
    have ph := Nat.two_pow_pos has
    have h8 : 2 ^ (has + n) ≤ 2 ^ 8 := Nat.pow_le_pow_right (by decide) hn8
    have hmm : N / 2 ^ (8 * q + has) % 2 ^ n * 2 ^ has < 2 ^ (has + n) := by
      rw [Nat.pow_add 2 has n, Nat.mul_comm (2 ^ has)]
      exact (Nat.mul_lt_mul_right ph).2 hm
    rw [shl_nat _ _ (by omega) (by omega)]
    have hc : N / 2 ^ (8 * q) % 2 ^ has < 2 ^ has := Nat.mod_lt _ ph
    have ph8 : (2 : Nat) ^ has ≤ 2 ^ 8 := Nat.pow_le_pow_right (by decide) (by omega)
    rw [or_join .u64 64 (by decide) wraps_u64 has _ _ (by omega) (by
      have : N / 2 ^ (8 * q + has) % 2 ^ n * 2 ^ has % 2 ^ has = 0 := Nat.mul_mod_left _ _
      exact_mod_cast this) (by
      have : N / 2 ^ (8 * q + has) % 2 ^ n * 2 ^ has < 2 ^ 64 := by omega
      exact_mod_cast this) (by omega) (by exact_mod_cast hc) (by
      have : N / 2 ^ (8 * q) % 2 ^ has < 2 ^ 64 := by omega
      exact_mod_cast this)]
    rw [Nat.pow_add 2 has n, Nat.mod_mul, Nat.div_div_eq_div_mul, ← Nat.pow_add, Int.natCast_add, Nat.mul_comm (2 ^ has)]
  · rw [shr_nat _ _ (by omega), e64, Nat.mod_mul_right_div_self, Nat.div_div_eq_div_mul, ← Nat.pow_add, Nat.add_assoc]
theorem pack_in (w : Nat) (a : List Nat) (N : Nat) (hw : w ≤ 64) (hl : a.length < 1000000) (i : Nat) (hi : i < a.length) {R : List Int × Int}
    (hn : ∀ q has, has < 8 → 8 * q + has = w * (i + 1) → Ev (fun k => bits_Pack.l0 k (w : Int) (le N q) ((N / 2 ^ (8 * q) % 2 ^ has : Nat) : Int) (has : Int) (ints a) (a.length : Int) ((i + 1 : Nat) : Int)) R) :
    ∀ (m left q has : Nat), left ≤ m → has < 8 → 8 * q + has + left = w * (i + 1) → left ≤ w → Ev (fun k => bits_Pack.l1 k (w : Int) (le N q) ((N / 2 ^ (8 * q) % 2 ^ has : Nat) : Int) (has : Int) ((N / 2 ^ (8 * q + has) % 2 ^ left : Nat) : Int) (left : Int) (ints a) (a.length : Int) (i : Int)) R
  | m, 0, q, has, _, hhas, hT, _ => by
    refine Ev.step (fun k => ?_) (hn q has hhas (by omega))
    rw [bits_Pack.l1, if_neg (by omega), w64_succ i (by omega)]
  | 0, left + 1, q, has, hm, hhas, hT, _ => absurd hm (by omega)
  | m + 1, left + 1, q, has, hm, hhas, hT, hlw => by
    have hst := pack_step N q has (left + 1) (min (left + 1) (8 - has)) hhas (by omega) rfl
    have hmn : mn ((left + 1 : Nat) : Int) (wrap64 (8 - (has : Int))) = ((min (left + 1) (8 - has) : Nat) : Int) := by
      have e := w64_sub 8 has (by omega) (by omega)
      rw [show ((8 : Nat) : Int) = 8 by rfl] at e
      rw [e]
      unfold mn
      split <;> omega
    have HST := Lib.hid hst
    have HMN := Lib.hid hmn
    clear hst hmn
    obtain ⟨n, hne⟩ : ∃ n, n = min (left + 1) (8 - has) := ⟨_, rfl⟩
    rw [← hne] at HST HMN
    have hn1 : 1 ≤ n := by omega
    have hn2 : n ≤ left + 1 := by omega
    have hn3 : has + n ≤ 8 := by omega
    clear hne
    have hwi : w * (i + 1) ≤ 64 * 1000000 := Nat.mul_le_mul hw (by omega)
    have hsub := Lib.hid (w64_sub (left + 1) n hn2 (by omega))
    have hadd := Lib.hid (w64_add has n (by omega) (by omega))
    by_cases h8 : has + n = 8
    · have ih := pack_in w a N hw hl i hi hn m (left + 1 - n) (q + 1) 0 (by omega) (by omega) (by omega) (by omega)
      refine Ev.step (fun k => ?_) ih
      rw [bits_Pack.l1, if_pos (by omega), HMN.out, if_pos (by omega), if_pos (by omega), HST.out.1, HST.out.2, hadd.out, hsub.out, if_pos (by omega), if_pos (by rw [le_length]; omega)]
      rw [h8, le_snoc q N, show 8 * (q + 1) + 0 = 8 * q + 8 by omega, show (2 : Nat) ^ 8 = 256 by rfl]
      rw [byteI _ (Nat.mod_lt _ (by decide))]
      rw [Nat.pow_zero, Nat.mod_one]
      rfl
    · have ih := pack_in w a N hw hl i hi hn m (left + 1 - n) q (has + n) (by omega) (by omega) (by omega) (by omega)
      refine Ev.step (fun k => ?_) ih
      rw [bits_Pack.l1, if_pos (by omega), HMN.out, if_pos (by omega), if_pos (by omega), HST.out.1, HST.out.2, hadd.out, hsub.out, if_neg (by omega)]
theorem pack_out (w : Nat) (a : List Nat) (hw : w ≤ 64) (hl : a.length < 1000000) (hb : ∀ x ∈ a, x < 2 ^ w) : ∀ (d i q has : Nat), i + d = a.length → has < 8 → 8 * q + has = w * i → Ev (fun k => bits_Pack.l0 k (w : Int) (le (sumw w a) q) ((sumw w a / 2 ^ (8 * q) % 2 ^ has : Nat) : Int) (has : Int) (ints a) (a.length : Int) (i : Int)) (le (sumw w a) ((w * a.length + 7) / 8), 0)
  | 0, i, q, has, hi, hhas, hT => by
    have e : i = a.length := by omega
    subst e
    have hlt := sumw_lt w a hb
    have hwi : w * a.length ≤ 64 * 1000000 := Nat.mul_le_mul hw (by omega)
    by_cases h0 : has = 0
    · subst h0
      refine Ev.step (f := fun _ => some _) (fun k => ?_) (Ev.now _)
      rw [bits_Pack.l0, if_neg (by omega), if_neg (by omega), show (w * a.length + 7) / 8 = q by omega]
    · refine Ev.step (f := fun _ => some _) (fun k => ?_) (Ev.now _)
      rw [bits_Pack.l0, if_neg (by omega), if_pos (by omega), if_pos (by rw [le_length]; omega), show (w * a.length + 7) / 8 = q + 1 by omega, le_snoc]
      have h1 : sumw w a / 2 ^ (8 * q) < 2 ^ has := by
        rw [Nat.div_lt_iff_lt_mul (Nat.two_pow_pos _), ← Nat.pow_add, Nat.add_comm has, hT]
        exact hlt
      have h2 : (2 : Nat) ^ has ≤ 2 ^ 8 := Nat.pow_le_pow_right (by decide) (by omega)
      rw [Nat.mod_eq_of_lt h1, Nat.mod_eq_of_lt (show sumw w a / 2 ^ (8 * q) < 256 by omega)]
      rw [byteI _ (show sumw w a / 2 ^ (8 * q) < 256 by omega)]
  | d + 1, i, q, has, hi, hhas, hT => by
    have ih : ∀ q has, has < 8 → 8 * q + has = w * (i + 1) → Ev (fun k => bits_Pack.l0 k (w : Int) (le (sumw w a) q) ((sumw w a / 2 ^ (8 * q) % 2 ^ has : Nat) : Int) (has : Int) (ints a) (a.length : Int) ((i + 1 : Nat) : Int)) (le (sumw w a) ((w * a.length + 7) / 8), 0) :=
      fun q has h1 h2 => pack_out w a hw hl hb d (i + 1) q has (by omega) h1 h2
    have h := pack_in w a (sumw w a) hw hl i (by omega) ih w w q has (Nat.le_refl _) hhas (by rw [Nat.mul_succ]; omega) (Nat.le_refl _)
    refine Ev.step (fun k => ?_) h
    rw [bits_Pack.l0, if_pos (by omega), if_pos (by omega), if_pos (by rw [ints_length]; omega), rd_ints, hT, sumw_at w a i hb]
theorem width_loop (w : Nat) (hw : w ≤ 64) (a : List Nat) (hl : a.length < 1000000) (hb : ∀ x ∈ a, x < 2 ^ w) : ∀ (d i acc : Nat), i + d = a.length → acc < 2 ^ w → ∃ n : Nat, n ≤ w ∧ Ev (fun k => bits_Width.l0 k (acc : Int) (ints a) (a.length : Int) (i : Int)) (n : Int)
  | 0, i, acc, hi, hacc => by
    have p64 : (2 : Nat) ^ w ≤ 2 ^ 64 := Nat.pow_le_pow_right (by decide) hw
    refine ⟨Lib.bitLen acc, Lib.bitLen_le acc w hw hacc, Ev.step (f := fun _ => some _) (fun k => ?_) (Ev.now _)⟩
    rw [bits_Width.l0, if_neg (by omega)]
    unfold bits_Len64.f
    rw [if_pos (by omega), Int.toNat_natCast]
    rfl
  | d + 1, i, acc, hi, hacc => by
    have p64 : (2 : Nat) ^ w ≤ 2 ^ 64 := Nat.pow_le_pow_right (by decide) hw
    have hx : a.getD i 0 < 2 ^ w := by rw [← sumw_at w a i hb]; exact Nat.mod_lt _ (Nat.two_pow_pos _)
    obtain ⟨n, hn, h⟩ := width_loop w hw a hl hb d (i + 1) (acc ||| a.getD i 0) (by omega) (Nat.or_lt_two_pow hacc hx)
    refine ⟨n, hn, Ev.step (fun k => ?_) h⟩
    rw [bits_Width.l0, if_pos (by omega), if_pos (by omega), if_pos (by rw [ints_length]; omega), rd_ints, (Go.bits_nat .u64 64 (by decide) wraps_u64 acc (a.getD i 0) (by omega) (by omega)).2, w64_succ i (by omega)]
theorem pack03 (w : Nat) (hw : w ≤ 64) (a : List Nat) (hl : a.length < 1000000) (hb : ∀ x ∈ a, x < 2 ^ w) : Ev (fun k => bits_Pack.f k (ints a) (w : Int)) (le (sumw w a) ((w * a.length + 7) / 8), 0) := by
  unfold bits_Pack.f
  refine Ev.neg (by omega) ?_
  rw [decide_eq_false (by omega)]
  obtain ⟨n, hn, hwd⟩ := width_loop w hw a hl hb a.length 0 0 (by omega) (Nat.two_pow_pos _)
  have h := pack_out w a hw hl hb a.length 0 0 0 (by omega) (by omega) (by omega)
  have hdiv : a.length / 8 * w ≤ 1000000 * 64 := Nat.mul_le_mul (by omega) hw
  have e1 : wrap64 ((a.length : Int) / 8) = ((a.length / 8 : Nat) : Int) := by unfold wrap64; omega
  have e2 : wrap64 (wrap64 (((a.length / 8 : Nat) : Int) * (w : Int)) + (w : Int)) = ((a.length / 8 * w + w : Nat) : Int) := by
    rw [show ((a.length / 8 : Nat) : Int) * (w : Int) = ((a.length / 8 * w : Nat) : Int) by simp]
    generalize a.length / 8 * w = z at *
    unfold wrap64
    omega
  have E1 := Lib.hid e1
  have E2 := Lib.hid e2
  clear e1 e2
  refine Ev.step (fun k => ?_) (Ev.bind (f := fun k t => if t > (w : Int) then some (([] : List Int), (7 : Int)) else bits_Pack.l0 k (w : Int) [] 0 0 (ints a) (a.length : Int) 0) hwd (Ev.neg (by omega) ?_))
  · rw [bits_Pack.j0, if_neg (by decide)]
    unfold bits_Width.f
    rw [ints_length, E1.out, E2.out]
    congr 1
    funext t
    rw [if_pos (show (0 : Int) ≤ ((a.length / 8 * w + w : Nat) : Int) by omega), if_pos (show (((a.length / 8 * w + w : Nat) : Int)).toNat ≤ 281474976710656 by omega)]
  · simpa [le, Nat.mod_one] using h
end Law
end Go.Proofs.Ythaifibhflfpkaa.Q
end
section
namespace Go.Proofs.Ythaifibhflfpkaa.Q
open Go.RowKit Go.Proofs.YthaifibhflfpkaaW.PrintWords Go.Proofs.YthaifibhflfpkaaW.PrintLast Go.Proofs.YthaifibhflfpkaaW.PrintMore Go.Proofs.YthaifibhflfpkaaX
attribute [local go_sem] max2_int min2_int max_two min_two max_three min_three max_four min_four   -- for this text's walks alone
set_option linter.unusedVariables false
set_option linter.unusedSimpArgs false
def slices_Min_uint64_uint64.l0 : Nat → List Int → Int → Int → Option (Int)
 | 0, _, _, _ => none
 | k + 1, x0, x3, x4 => if x4 < (x0.length : Int) then (if 0 ≤ x4 then (slices_Min_uint64_uint64.l0 k x0 (mn x3 (rd x0 x4)) (wrap64 (x4 + 1))) else (none)) else (some x3)
def slices_Min_uint64_uint64.f (k : Nat) (l0 : List Int) : Option (Int) := if (l0.length : Int) < 1 then (none) else (if 0 < (l0.length : Int) then (slices_Min_uint64_uint64.l0 k l0 (rd l0 0) 1) else (none))
set_option maxHeartbeats 8000000 in
set_option maxRecDepth 100000 in
theorem slices_Min_uint64_uint64.calls (k : Nat) (A0 : Option Addr) (c0 : Nat) (l0 : List Int) (r : Int) (w : World) (hr0 : Kd.C (Kd.int .u64) w A0 l0.length l0) (hc0 : l0.length ≤ c0) (h : slices_Min_uint64_uint64.f k l0 = some r) :
  Calls Try.prog 76 #[.slice A0 l0.length c0] w fun e w' => e = .returned (.int .u64 r) ∧ Below w.heap.size w w' := by
 have HR0 := aM hr0
 have HC0 := aM hc0
 clear hr0 hc0
 have HB := aM (Below.refl w.heap.size w)
 have H : (if (l0.length : Int) < 1 then (none) else (if 0 < (l0.length : Int) then (slices_Min_uint64_uint64.l0 k l0 (rd l0 0) 1) else (none))) = some r := h
 clear h
 by_cases c2 : (l0.length : Int) < 1
 ·
  rw [if_pos c2] at H
  exact absurd H (by simp)
 ·
  rw [if_neg c2] at H
  have c2b0 : decide ((l0.length : Int) < 1) = false := decide_eq_false c2
  have c2b1 : decide (l0.length < 1) = false := decide_eq_false (by omega)
  clear c2
  by_cases c3 : 0 < (l0.length : Int)
  ·
   rw [if_pos c3] at H
   have c3b0 : decide (0 < (l0.length : Int)) = true := decide_eq_true c3
   have c3b1 : decide (0 < l0.length) = true := decide_eq_true (by omega)
   clear c3
   have H' := aM H
   clear H
   have p157 : 0 ≤ (0 : Int) := (by omega)
   have q157 : 0 < (l0.length : Int) := of_decide_eq_true (by first | (with_reducible assumption) | assumption)
   obtain ⟨ad157, e157, hx157_0⟩ := Kd.at_int HR0.out 0 p157 q157
   cases e157
   have qi157 : (0 < l0.length) = True := eq_true (by omega)
   (try rw [show ((0 : Int)).toNat = 0 from rfl] at hx157_0)
   (try rw [Addr.add_zero'] at hx157_0)
   replace p157 := eq_true p157
   replace q157 := eq_true q157
   go_enter Try.func76, Try.ntmps76
   go_wp2
   go_loopg [3, 4] k (fun kq v3 v4 w' => ∃ (x3_1 : Int) (x4_1 : Int), v3 = .int .u64 x3_1 ∧ v4 = .int .i64 x4_1 ∧ Aside0 (slices_Min_uint64_uint64.l0 kq l0 x3_1 x4_1 = some r) ∧ Aside0 (kq ≤ k) ∧ Aside0 (Below w.heap.size w w'))
   case atStart => exact ⟨(rd l0 0), (1), (by first | rfl | (simp; done) | (simp [*]; done)), (by first | rfl | (simp; done) | (simp [*]; done)), H', ⟨Nat.le_refl _⟩, ⟨xB HB.out⟩⟩
   case round =>
    clear H'
    try clear p1
    try clear q1
    try clear hx1
    try clear qi1
    try clear c2
    try clear c2b0
    try clear c2b1
    try clear p2
    try clear c3
    try clear c3b0
    try clear c3b1
    try clear hx157_0
    try clear p157
    try clear q157
    obtain ⟨x3_1, x4_1, rfl, rfl, HA, HK1, HB⟩ := hrel
    cases gk with
    | zero => exact absurd HA.out (by simp [slices_Min_uint64_uint64.l0])
    | succ k1 =>
     have H := HA.out
     clear HA
     simp only [slices_Min_uint64_uint64.l0] at H
     by_cases c4 : x4_1 < (l0.length : Int)
     ·
      rw [if_pos c4] at H
      have c4b0 : decide (x4_1 < (l0.length : Int)) = true := decide_eq_true c4
      clear c4
      by_cases c5 : 0 ≤ x4_1
      ·
       rw [if_pos c5] at H
       have c5b0 : decide (0 ≤ x4_1) = true := decide_eq_true c5
       clear c5
       obtain ⟨ji6, hji6⟩ : ∃ j_ : Int, (mn x3_1 (rd l0 x4_1)) = j_ := ⟨_, rfl⟩
       replace H : (slices_Min_uint64_uint64.l0 k1 l0 ji6 (wrap64 (x4_1 + 1))) = some r := by first | (rw [hji6] at H; exact H) | (simp only [hji6] at H ⊢; exact H)
       have hji6_ : (if (rd l0 x4_1) < x3_1 then (rd l0 x4_1) else x3_1) = ji6 := hji6
       have H' := aM H
       clear H
       have p158 : 0 ≤ (x4_1 : Int) := of_decide_eq_true (by first | (with_reducible assumption) | assumption)
       have q158 : x4_1 < (l0.length : Int) := of_decide_eq_true (by first | (with_reducible assumption) | assumption)
       obtain ⟨ad158, e158, hx158_0⟩ := Kd.at_int HR0.out x4_1 p158 q158
       obtain rfl : ad157 = ad158 := (by injection e158)
       replace hx158_0 := (HB.out.cell (World.block_lt_of_cell? w _ hx158_0)).trans hx158_0
       replace p158 := eq_true p158
       replace q158 := eq_true q158
       go_wp2
       go_roundg k1
       case measure => have := HK1.out; omega
       case rel => exact ⟨(ji6), (wrap64 (x4_1 + 1)), (by first | rfl | (simp; done) | (simp only [← hji6] <;> (first | rfl | simp)) | (simp [*]; done)), (by first | rfl | (simp; done) | (simp [*]; done)), H', ⟨by have := HK1.out; omega⟩, ⟨xB HB.out⟩⟩
      ·
       rw [if_neg c5] at H
       exact absurd H (by simp)
     ·
      rw [if_neg c4] at H
      have c4b0 : decide (x4_1 < (l0.length : Int)) = false := decide_eq_false c4
      clear c4
      obtain rfl := Option.some.inj H
      go_wp2
      go_ret
      exact ⟨by first | rfl | (simp [errW_none, errW_some] <;> rfl) | (simp [*, errW_none, errW_some] <;> rfl), xB HB.out⟩
  ·
   rw [if_neg c3] at H
   exact absurd H (by simp)
def pfor_high.f (a0 : Int) (a1 : Int) : Option (Int) := if a1 ≥ 64 then (some 0) else (if 0 ≤ a1 then (some (shr .u64 a0 a1)) else (none))
set_option maxHeartbeats 8000000 in
set_option maxRecDepth 100000 in
theorem pfor_high.calls (a0 : Int) (a1 : Int) (r : Int) (w : World) (h : pfor_high.f a0 a1 = some r) :
  Calls Try.prog 78 #[.int .u64 a0, .int .i64 a1] w fun e w' => e = .returned (.int .u64 r) ∧ Drawn0 w w' := by
 have H : (if a1 ≥ 64 then (some 0) else (if 0 ≤ a1 then (some (shr .u64 a0 a1)) else (none))) = some r := h
 clear h
 by_cases c3 : a1 ≥ 64
 ·
  rw [if_pos c3] at H
  have c3b0 : decide (64 ≤ a1) = true := decide_eq_true c3
  clear c3
  obtain rfl := Option.some.inj H
  go_enter Try.func78, Try.ntmps78
  go_wp2
  go_ret
  exact ⟨by first | rfl | (simp; done) | (simp [*]; done), by repeat (first | exact Drawn0.refl _ | apply Drawn0.step)⟩
 ·
  rw [if_neg c3] at H
  have c3b0 : decide (64 ≤ a1) = false := decide_eq_false c3
  clear c3
  by_cases c4 : 0 ≤ a1
  ·
   rw [if_pos c4] at H
   have c4b0 := eq_true c4
   have c4b1 : decide (0 ≤ a1) = true := decide_eq_true c4
   clear c4
   obtain ⟨ji5, hji5⟩ : ∃ j_ : Int, (shr .u64 a0 a1) = j_ := ⟨_, rfl⟩
   replace H : (some ji5) = some r := by first | (rw [hji5] at H; exact H) | (simp only [hji5] at H ⊢; exact H)
   have hji5_ : (a0 / 2 ^ min a1.toNat 64) = ji5 := hji5
   have hji5z : a1 ≤ 64 → (a0 / 2 ^ a1.toNat) = ji5 := shr_small hji5
   obtain rfl := Option.some.inj H
   go_enter Try.func78, Try.ntmps78
   go_wp2
   go_ret
   exact ⟨by first | rfl | (simp; done) | (simp only [← hji5] <;> (first | rfl | simp)) | (simp [*]; done), by repeat (first | exact Drawn0.refl _ | apply Drawn0.step)⟩
  ·
   rw [if_neg c4] at H
   exact absurd H (by simp)
def pfor_size.f (k : Nat) (a0 : Int) : Option (Int) := (num_Put.f k ([] : List Int) a0).bind fun t159 => (some (t159.length : Int))
set_option maxHeartbeats 8000000 in
set_option maxRecDepth 100000 in
theorem pfor_size.calls (k : Nat) (a0 : Int) (r : Int) (w : World) (h : pfor_size.f k a0 = some r) :
  Calls Try.prog 105 #[.int .u64 a0] w fun e w' => e = .returned (.int .i64 r) ∧ Below w.heap.size w w' := by
 have HB := aM (Below.refl w.heap.size w)
 have H : ((num_Put.f k ([] : List Int) a0).bind fun t159 => (some (t159.length : Int))) = some r := h
 clear h
 replace H := Option.bind_eq_some_iff.mp H
 obtain ⟨t159, A20, H⟩ := H
 replace H : (some (t159.length : Int)) = some r := H
 have A2 := aM A20
 clear A20
 obtain rfl := Option.some.inj H
 go_enter Try.func105, Try.ntmps105
 go_wp2_with (first | ((with_reducible refine gate_callee (f := 47) rfl ?_); refine goesL_ (some 4) rfl rfl Try.func47 (by kernel_rfl) rfl #[.slice none 0 0, .int .u64 a0] rfl (by (try simp only [List.map_toArray, List.map_cons, List.map_nil]); first | done | rfl | (simp only [List.length_drop, List.length_take]; rfl)) ?_; (refine (num_Put.calls k _ _ ([] : List Int) a0 t159 _ ?side1 ?side2 A2.out).mono ?_); (case side1 => exact Kd.C_nil _ _); (case side2 => exact Nat.le_refl _); rintro e w3 ⟨v160, rfl, ho0, hb⟩; refine ⟨_, rfl, ?_⟩; have n0_ := aM (Kd.R_lower ho0 (below_size (xB HB.out))); have n1_ := aM (below_step (xB HB.out) hb); clear HB; have HO161 := n0_; have HB := n1_; clear n0_ n1_; (try clear hb); (try clear hb2); (try clear hk); (try clear hi); (try clear ho0); obtain ⟨Ao4, co4, eo4⟩ := Kd.R_slice HO161.out; subst eo4))
 go_ret
 exact ⟨by first | rfl | (simp [errW_none, errW_some] <;> rfl) | (simp [*, errW_none, errW_some] <;> rfl), xB HB.out⟩
mutual
def pfor_width.l0 : Nat → List Int → Int → Int → Int → Option (Int)
 | 0, _, _, _, _ => none
 | k + 1, x0, x3, x4, x5 => if x5 ≤ 64 then (pfor_width.l1 k x0 x3 x4 x5 (wrap64 (Int.tdiv (wrap64 ((wrap64 ((x0.length : Int) * x5)) + 7)) 8)) x0 (x0.length : Int) 0) else (some x3)
def pfor_width.l1 : Nat → List Int → Int → Int → Int → Int → List Int → Int → Int → Option (Int)
 | 0, _, _, _, _, _, _, _, _ => none
 | k + 1, x0, x3, x4, x5, x6, x20, x21, x22 => if x22 < x21 then (if 0 ≤ x22 then (if x22 < (x20.length : Int) then ((pfor_high.f (rd x20 x22) x5).bind fun t163 => (if t163 > 0 then ((pfor_size.f k t163).bind fun t164 => (pfor_width.l1 k x0 x3 x4 x5 (wrap64 (x6 + (wrap64 (1 + t164)))) x20 x21 (wrap64 (x22 + 1)))) else (pfor_width.l1 k x0 x3 x4 x5 x6 x20 x21 (wrap64 (x22 + 1))))) else (none)) else (none)) else (if x4 < 0 then (pfor_width.l0 k x0 x5 x6 (wrap64 (x5 + 1))) else (if x6 < x4 then (pfor_width.l0 k x0 x5 x6 (wrap64 (x5 + 1))) else (pfor_width.l0 k x0 x3 x4 (wrap64 (x5 + 1)))))
end
def pfor_width.f (k : Nat) (l0 : List Int) : Option (Int) := pfor_width.l0 k l0 0 (-1) 0
set_option maxHeartbeats 8000000 in
set_option maxRecDepth 100000 in
theorem pfor_width.calls (k : Nat) (A0 : Option Addr) (c0 : Nat) (l0 : List Int) (r : Int) (w : World) (hr0 : Kd.C (Kd.int .u64) w A0 l0.length l0) (hc0 : l0.length ≤ c0) (h : pfor_width.f k l0 = some r) :
  Calls Try.prog 77 #[.slice A0 l0.length c0] w fun e w' => e = .returned (.int .i64 r) ∧ Below w.heap.size w w' := by
 have HR0 := aM hr0
 have HC0 := aM hc0
 clear hr0 hc0
 have HB := aM (Below.refl w.heap.size w)
 have H : (pfor_width.l0 k l0 0 (-1) 0) = some r := h
 clear h
 have H' := aM H
 clear H
 go_enter Try.func77, Try.ntmps77
 go_wp2
 go_loopg [3, 4, 5] k (fun kq v3 v4 v5 w' => ∃ (x3_1 : Int) (x4_1 : Int) (x5_1 : Int), v3 = .int .i64 x3_1 ∧ v4 = .int .i64 x4_1 ∧ v5 = .int .i64 x5_1 ∧ Aside0 (pfor_width.l0 kq l0 x3_1 x4_1 x5_1 = some r) ∧ Aside0 (kq ≤ k) ∧ Aside0 (Below w.heap.size w w'))
 case atStart => exact ⟨(0), ((-1)), (0), (by first | rfl | (simp; done) | (simp [*]; done)), (by first | rfl | (simp; done) | (simp [*]; done)), (by first | rfl | (simp; done) | (simp [*]; done)), H', ⟨Nat.le_refl _⟩, ⟨xB HB.out⟩⟩
 case round =>
  clear H'
  obtain ⟨x3_1, x4_1, x5_1, rfl, rfl, rfl, HA, HK1, HB⟩ := hrel
  cases gk with
  | zero => exact absurd HA.out (by simp [pfor_width.l0])
  | succ k1 =>
   have H := HA.out
   clear HA
   simp only [pfor_width.l0] at H
   by_cases c2 : x5_1 ≤ 64
   ·
    rw [if_pos c2] at H
    have c2b0 : decide (x5_1 ≤ 64) = true := decide_eq_true c2
    clear c2
    have H' := aM H
    clear H
    go_wp2
    go_loopg [6, 22] k1 (fun kq v6 v22 w' => ∃ (x6_2 : Int) (x22_2 : Int), v6 = .int .i64 x6_2 ∧ v22 = .int .i64 x22_2 ∧ Aside0 (pfor_width.l1 kq l0 x3_1 x4_1 x5_1 x6_2 l0 (l0.length : Int) x22_2 = some r) ∧ Aside0 (kq ≤ k1) ∧ Aside0 (Below w.heap.size w w'))
    case atStart => exact ⟨(wrap64 (Int.tdiv (wrap64 ((wrap64 ((l0.length : Int) * x5_1)) + 7)) 8)), (0), (by first | rfl | (simp; done) | (simp [*]; done)), (by first | rfl | (simp; done) | (simp [*]; done)), H', ⟨Nat.le_refl _⟩, ⟨xB HB.out⟩⟩
    case round =>
     clear H'
     try clear c2
     try clear c2b0
     try clear p2
     obtain ⟨x6_2, x22_2, rfl, rfl, HA, HK2, HB⟩ := hrel
     cases gk with
     | zero => exact absurd HA.out (by simp [pfor_width.l1])
     | succ k2 =>
      have H := HA.out
      clear HA
      simp only [pfor_width.l1] at H
      by_cases c3 : x22_2 < (l0.length : Int)
      ·
       rw [if_pos c3] at H
       have c3b0 : decide (x22_2 < (l0.length : Int)) = true := decide_eq_true c3
       clear c3
       by_cases c4 : 0 ≤ x22_2
       ·
        rw [if_pos c4] at H
        have c4b0 : decide (0 ≤ x22_2) = true := decide_eq_true c4
        clear c4
        by_cases c5 : x22_2 < (l0.length : Int)
        ·
         rw [if_pos c5] at H
         have c5b0 : decide (x22_2 < (l0.length : Int)) = true := decide_eq_true c5
         clear c5
         replace H := Option.bind_eq_some_iff.mp H
         obtain ⟨t163, A60, H⟩ := H
         replace H : (if t163 > 0 then ((pfor_size.f k2 t163).bind fun t164 => (pfor_width.l1 k2 l0 x3_1 x4_1 x5_1 (wrap64 (x6_2 + (wrap64 (1 + t164)))) l0 (l0.length : Int) (wrap64 (x22_2 + 1)))) else (pfor_width.l1 k2 l0 x3_1 x4_1 x5_1 x6_2 l0 (l0.length : Int) (wrap64 (x22_2 + 1)))) = some r := H
         have A6 := aM A60
         clear A60
         by_cases c7 : t163 > 0
         ·
          rw [if_pos c7] at H
          have c7b0 : decide (0 < t163) = true := decide_eq_true c7
          clear c7
          replace H := Option.bind_eq_some_iff.mp H
          obtain ⟨t164, A80, H⟩ := H
          replace H : (pfor_width.l1 k2 l0 x3_1 x4_1 x5_1 (wrap64 (x6_2 + (wrap64 (1 + t164)))) l0 (l0.length : Int) (wrap64 (x22_2 + 1))) = some r := H
          have A8 := aM A80
          clear A80
          have H' := aM H
          clear H
          have p162 : 0 ≤ (x22_2 : Int) := of_decide_eq_true (by first | (with_reducible assumption) | assumption)
          have q162 : x22_2 < (l0.length : Int) := of_decide_eq_true (by first | (with_reducible assumption) | assumption)
          obtain ⟨ad162, e162, hx162_0⟩ := Kd.at_int HR0.out x22_2 p162 q162
          cases e162
          replace hx162_0 := (HB.out.cell (World.block_lt_of_cell? w _ hx162_0)).trans hx162_0
          replace p162 := eq_true p162
          replace q162 := eq_true q162
          go_wp2_with (first | ((with_reducible refine gate_callee (f := 78) rfl ?_); refine goesL_ (some 28) rfl rfl Try.func78 (by kernel_rfl) rfl #[.int .u64 (rd l0 x22_2), .int .i64 x5_1] rfl (by (try simp only [List.map_toArray, List.map_cons, List.map_nil]); first | done | rfl | (simp only [List.length_drop, List.length_take]; rfl)) ?_; (with_reducible refine (pfor_high.calls (rd l0 x22_2) x5_1 t163 _ A6.out).mono ?_); rintro e w' ⟨rfl, ⟨nd, rfl⟩⟩; refine ⟨_, rfl, ?_⟩) | ((with_reducible refine gate_callee (f := 105) rfl ?_); refine goesL_ (some 33) rfl rfl Try.func105 (by kernel_rfl) rfl #[.int .u64 t163] rfl (by (try simp only [List.map_toArray, List.map_cons, List.map_nil]); first | done | rfl | (simp only [List.length_drop, List.length_take]; rfl)) ?_; (with_reducible refine (pfor_size.calls k2 t163 t164 _ A8.out).mono ?_); rintro e w9 ⟨rfl, hb⟩; refine ⟨_, rfl, ?_⟩; have n0_ := aM (below_step (xB HB.out) hb); clear HB; have HB := n0_; clear n0_; (try clear hb); (try clear hb2); (try clear hk); (try clear hi)))
          go_roundg k2
          case measure => have := HK1.out; have := HK2.out; omega
          case rel => exact ⟨(wrap64 (x6_2 + (wrap64 (1 + t164)))), (wrap64 (x22_2 + 1)), (by first | rfl | (simp; done) | (simp [*]; done)), (by first | rfl | (simp; done) | (simp [*]; done)), H', ⟨by have := HK1.out; have := HK2.out; omega⟩, ⟨xB HB.out⟩⟩
         ·
          rw [if_neg c7] at H
          have c7b0 : decide (0 < t163) = false := decide_eq_false c7
          clear c7
          have H' := aM H
          clear H
          have p162 : 0 ≤ (x22_2 : Int) := of_decide_eq_true (by first | (with_reducible assumption) | assumption)
          have q162 : x22_2 < (l0.length : Int) := of_decide_eq_true (by first | (with_reducible assumption) | assumption)
          obtain ⟨ad162, e162, hx162_0⟩ := Kd.at_int HR0.out x22_2 p162 q162
          cases e162
          replace hx162_0 := (HB.out.cell (World.block_lt_of_cell? w _ hx162_0)).trans hx162_0
          replace p162 := eq_true p162
          replace q162 := eq_true q162
          go_wp2_with (first | ((with_reducible refine gate_callee (f := 78) rfl ?_); refine goesL_ (some 28) rfl rfl Try.func78 (by kernel_rfl) rfl #[.int .u64 (rd l0 x22_2), .int .i64 x5_1] rfl (by (try simp only [List.map_toArray, List.map_cons, List.map_nil]); first | done | rfl | (simp only [List.length_drop, List.length_take]; rfl)) ?_; (with_reducible refine (pfor_high.calls (rd l0 x22_2) x5_1 t163 _ A6.out).mono ?_); rintro e w' ⟨rfl, ⟨nd, rfl⟩⟩; refine ⟨_, rfl, ?_⟩))
          go_roundg k2
          case measure => have := HK1.out; have := HK2.out; omega
          case rel => exact ⟨(x6_2), (wrap64 (x22_2 + 1)), (by first | rfl | (simp; done) | (simp [*]; done)), (by first | rfl | (simp; done) | (simp [*]; done)), H', ⟨by have := HK1.out; have := HK2.out; omega⟩, ⟨xB HB.out⟩⟩
        ·
         rw [if_neg c5] at H
         exact absurd H (by simp)
       ·
        rw [if_neg c4] at H
        exact absurd H (by simp)
      ·
       rw [if_neg c3] at H
       have c3b0 : decide (x22_2 < (l0.length : Int)) = false := decide_eq_false c3
       clear c3
       by_cases c10 : x4_1 < 0
       ·
        rw [if_pos c10] at H
        have c10b0 : decide (x4_1 < 0) = true := decide_eq_true c10
        clear c10
        have H' := aM H
        clear H
        go_wp2
        go_roundg k2
        case measure => have := HK1.out; have := HK2.out; omega
        case rel => exact ⟨(x5_1), (x6_2), (wrap64 (x5_1 + 1)), (by first | rfl | (simp; done) | (simp [*]; done)), (by first | rfl | (simp; done) | (simp [*]; done)), (by first | rfl | (simp; done) | (simp [*]; done)), H', ⟨by have := HK1.out; have := HK2.out; omega⟩, ⟨xB HB.out⟩⟩
       ·
        rw [if_neg c10] at H
        have c10b0 : decide (x4_1 < 0) = false := decide_eq_false c10
        clear c10
        by_cases c11 : x6_2 < x4_1
        ·
         rw [if_pos c11] at H
         have c11b0 : decide (x6_2 < x4_1) = true := decide_eq_true c11
         clear c11
         have H' := aM H
         clear H
         go_wp2
         go_roundg k2
         case measure => have := HK1.out; have := HK2.out; omega
         case rel => exact ⟨(x5_1), (x6_2), (wrap64 (x5_1 + 1)), (by first | rfl | (simp; done) | (simp [*]; done)), (by first | rfl | (simp; done) | (simp [*]; done)), (by first | rfl | (simp; done) | (simp [*]; done)), H', ⟨by have := HK1.out; have := HK2.out; omega⟩, ⟨xB HB.out⟩⟩
        ·
         rw [if_neg c11] at H
         have c11b0 : decide (x6_2 < x4_1) = false := decide_eq_false c11
         clear c11
         have H' := aM H
         clear H
         go_wp2
         go_roundg k2
         case measure => have := HK1.out; have := HK2.out; omega
         case rel => exact ⟨(x3_1), (x4_1), (wrap64 (x5_1 + 1)), (by first | rfl | (simp; done) | (simp [*]; done)), (by first | rfl | (simp; done) | (simp [*]; done)), (by first | rfl | (simp; done) | (simp [*]; done)), H', ⟨by have := HK1.out; have := HK2.out; omega⟩, ⟨xB HB.out⟩⟩
   ·
    rw [if_neg c2] at H
    have c2b0 : decide (x5_1 ≤ 64) = false := decide_eq_false c2
    clear c2
    obtain rfl := Option.some.inj H
    go_wp2
    go_ret
    exact ⟨by first | rfl | (simp [errW_none, errW_some] <;> rfl) | (simp [*, errW_none, errW_some] <;> rfl), xB HB.out⟩
mutual
def slices_Concat_byte_byte.l0 : Nat → List (List Int) → Int → List (List Int) → Int → Int → Option (List Int)
 | 0, _, _, _, _, _ => none
 | k + 1, x0, x3, x9, x10, x11 => if x11 < x10 then (if 0 ≤ x11 then (if x11 < (x9.length : Int) then (if (wrap64 (x3 + ((rd_L1 x9 x11).length : Int))) < 0 then (none) else (slices_Concat_byte_byte.l0 k x0 (wrap64 (x3 + ((rd_L1 x9 x11).length : Int))) x9 x10 (wrap64 (x11 + 1)))) else (none)) else (none)) else ((slices_Grow_byte_byte.f ([] : List Int) x3).bind fun t179 => (slices_Concat_byte_byte.l1 k t179 x0 (x0.length : Int) 0))
def slices_Concat_byte_byte.l1 : Nat → List Int → List (List Int) → Int → Int → Option (List Int)
 | 0, _, _, _, _ => none
 | k + 1, x6, x25, x26, x27 => if x27 < x26 then (if 0 ≤ x27 then (if x27 < (x25.length : Int) then (if x6.length + (rd_L1 x25 x27).length < 140737488355328 then (slices_Concat_byte_byte.l1 k (x6 ++ (rd_L1 x25 x27)) x25 x26 (wrap64 (x27 + 1))) else (none)) else (none)) else (none)) else (some x6)
end
def slices_Concat_byte_byte.f (k : Nat) (l0 : List (List Int)) : Option (List Int) := slices_Concat_byte_byte.l0 k l0 0 l0 (l0.length : Int) 0
set_option maxHeartbeats 8000000 in
set_option maxRecDepth 100000 in
theorem slices_Concat_byte_byte.calls (k : Nat) (A0 : Option Addr) (c0 : Nat) (l0 : List (List Int)) (r : List Int) (w : World) (hr0 : Kd.C (Kd.slice 5 (Kd.int .u8)) w A0 l0.length l0) (hc0 : l0.length ≤ c0) (h : slices_Concat_byte_byte.f k l0 = some r) :
  Calls Try.prog 80 #[.slice A0 l0.length c0] w fun e w' => ∃ v0_ : Value, e = .returned (v0_) ∧ Kd.R (Kd.int .u8) 5 w' w.heap.size (fun _ => True) v0_ r ∧ Below w.heap.size w w' := by
 have HR0 := aM hr0
 have HC0 := aM hc0
 clear hr0 hc0
 have HB := aM (Below.refl w.heap.size w)
 have H : (slices_Concat_byte_byte.l0 k l0 0 l0 (l0.length : Int) 0) = some r := h
 clear h
 have H' := aM H
 clear H
 go_enter Try.func80, Try.ntmps80
 go_wp2
 go_loopg [3, 11] k (fun kq v3 v11 w' => ∃ (x3_1 : Int) (x11_1 : Int), v3 = .int .i64 x3_1 ∧ v11 = .int .i64 x11_1 ∧ Aside0 (slices_Concat_byte_byte.l0 kq l0 x3_1 l0 (l0.length : Int) x11_1 = some r) ∧ Aside0 (kq ≤ k) ∧ Aside0 (Below w.heap.size w w'))
 case atStart => exact ⟨(0), (0), (by first | rfl | (simp; done) | (simp [*]; done)), (by first | rfl | (simp; done) | (simp [*]; done)), H', ⟨Nat.le_refl _⟩, ⟨xB HB.out⟩⟩
 case round =>
  clear H'
  obtain ⟨x3_1, x11_1, rfl, rfl, HA, HK1, HB⟩ := hrel
  cases gk with
  | zero => exact absurd HA.out (by simp [slices_Concat_byte_byte.l0])
  | succ k1 =>
   have H := HA.out
   clear HA
   simp only [slices_Concat_byte_byte.l0] at H
   by_cases c2 : x11_1 < (l0.length : Int)
   ·
    rw [if_pos c2] at H
    have c2b0 : decide (x11_1 < (l0.length : Int)) = true := decide_eq_true c2
    clear c2
    by_cases c3 : 0 ≤ x11_1
    ·
     rw [if_pos c3] at H
     have c3b0 : decide (0 ≤ x11_1) = true := decide_eq_true c3
     clear c3
     by_cases c4 : x11_1 < (l0.length : Int)
     ·
      rw [if_pos c4] at H
      have c4b0 : decide (x11_1 < (l0.length : Int)) = true := decide_eq_true c4
      clear c4
      by_cases c5 : (wrap64 (x3_1 + ((rd_L1 l0 x11_1).length : Int))) < 0
      ·
       rw [if_pos c5] at H
       exact absurd H (by simp)
      ·
       rw [if_neg c5] at H
       have c5b0 : decide ((wrap64 (x3_1 + ((rd_L1 l0 x11_1).length : Int))) < 0) = false := decide_eq_false c5
       clear c5
       have H' := aM H
       clear H
       have p178 : 0 ≤ (x11_1 : Int) := of_decide_eq_true (by first | (with_reducible assumption) | assumption)
       have q178 : x11_1 < (l0.length : Int) := of_decide_eq_true (by first | (with_reducible assumption) | assumption)
       obtain ⟨ad178, A178_0, c178_0, e178, hx178_0, hl178_0, hi178_0⟩ := at_L1 HR0.out x11_1 p178 q178
       cases e178
       replace hx178_0 := (HB.out.cell (World.block_lt_of_cell? w _ hx178_0)).trans hx178_0
       have HR178_0 := aM hi178_0
       have HC178_0 := aM hl178_0
       clear hi178_0 hl178_0
       replace p178 := eq_true p178
       replace q178 := eq_true q178
       go_wp2
       go_roundg k1
       case measure => have := HK1.out; omega
       case rel => exact ⟨(wrap64 (x3_1 + ((rd_L1 l0 x11_1).length : Int))), (wrap64 (x11_1 + 1)), (by first | rfl | (simp; done) | (simp [*]; done)), (by first | rfl | (simp; done) | (simp [*]; done)), H', ⟨by have := HK1.out; omega⟩, ⟨xB HB.out⟩⟩
     ·
      rw [if_neg c4] at H
      exact absurd H (by simp)
    ·
     rw [if_neg c3] at H
     exact absurd H (by simp)
   ·
    rw [if_neg c2] at H
    have c2b0 : decide (x11_1 < (l0.length : Int)) = false := decide_eq_false c2
    clear c2
    replace H := Option.bind_eq_some_iff.mp H
    obtain ⟨t179, A60, H⟩ := H
    replace H : (slices_Concat_byte_byte.l1 k1 t179 l0 (l0.length : Int) 0) = some r := H
    have A6 := aM A60
    clear A60
    have H' := aM H
    clear H
    go_wp2_with (first | ((with_reducible refine gate_callee (f := 73) rfl ?_); refine goesL_ (some 24) rfl rfl Try.func73 (by kernel_rfl) rfl #[.slice none 0 0, .int .i64 x3_1] rfl (by (try simp only [List.map_toArray, List.map_cons, List.map_nil]); first | done | rfl | (simp only [List.length_drop, List.length_take]; rfl)) ?_; (refine (slices_Grow_byte_byte.calls (fun k_ => some k_ = (.slice none 0 0 : Value).ownBlock) (.slice none 0 0) ([] : List Int) x3_1 t179 w _ ?side1 ?side2 A6.out).mono ?_); (case side1 => repeat (first | (with_reducible first | exact HB.out | apply below_alloc | apply pw_below_drewN | apply below_drew1) | exact HB.out)); (case side2 => exact Kd.R_nil _ _ _ _ _); rintro e w7 ⟨v180, rfl, ho0, hb, hkp⟩; refine ⟨_, rfl, ?_⟩; have n0_ := aM (Kd.R_mono (ok' := fun k_ => True) ho0 (fun k_ hk_ => trivial)); have n1_ := aM (hb); clear HB; have HO181 := n0_; have HB := n1_; clear n0_ n1_; (try clear hb); (try clear hkp); (try clear ho0)))
    go_loopg [6, 27] k1 (fun kq v6 v27 w' => ∃ (x6_2 : List Int) (x27_2 : Int), v27 = .int .i64 x27_2 ∧ Aside0 (slices_Concat_byte_byte.l1 kq x6_2 l0 (l0.length : Int) x27_2 = some r) ∧ Aside0 (kq ≤ k1) ∧ Aside0 (Kd.R (Kd.int .u8) 5 w' w.heap.size (fun _ => True) v6 x6_2) ∧ Aside0 (Below w.heap.size w w'))
    case atStart => exact ⟨(t179), (0), (by first | rfl | (simp; done) | (simp [*]; done)), H', ⟨Nat.le_refl _⟩, ⟨by (with_reducible repeat (first | apply Kd.R_alloc | apply Kd.R_drewN | apply Kd.R_drew)); exact HO181.out⟩, ⟨xB HB.out⟩⟩
    case round =>
     clear H'
     try clear c1
     try clear p1
     try clear q1
     try clear hx1
     try clear c2
     try clear c2b0
     try clear p2
     try clear c3
     try clear c3b0
     try clear c4
     try clear c4b0
     try clear c5
     try clear c5b0
     try clear p6
     try clear c7
     try clear hx178_0
     try clear p178
     try clear q178
     obtain ⟨x6_2, x27_2, rfl, HA, HK2, HO_6, HB⟩ := hrel
     cases gk with
     | zero => exact absurd HA.out (by simp [slices_Concat_byte_byte.l1])
     | succ k2 =>
      have H := HA.out
      clear HA
      simp only [slices_Concat_byte_byte.l1] at H
      by_cases c8 : x27_2 < (l0.length : Int)
      ·
       rw [if_pos c8] at H
       have c8b0 : decide (x27_2 < (l0.length : Int)) = true := decide_eq_true c8
       clear c8
       by_cases c9 : 0 ≤ x27_2
       ·
        rw [if_pos c9] at H
        have c9b0 : decide (0 ≤ x27_2) = true := decide_eq_true c9
        clear c9
        by_cases c10 : x27_2 < (l0.length : Int)
        ·
         rw [if_pos c10] at H
         have c10b0 : decide (x27_2 < (l0.length : Int)) = true := decide_eq_true c10
         clear c10
         by_cases c11 : x6_2.length + (rd_L1 l0 x27_2).length < 140737488355328
         ·
          rw [if_pos c11] at H
          have LMc11 := aM c11
          clear c11
          obtain ⟨y183, hy183⟩ : ∃ y_ : List Int, y_ = (x6_2 ++ (rd_L1 l0 x27_2)) := ⟨_, rfl⟩
          replace H : (slices_Concat_byte_byte.l1 k2 y183 l0 (l0.length : Int) (wrap64 (x27_2 + 1))) = some r := by first | (rw [hy183]; with_reducible exact H) | (have H2_ := (Option.bind_some _ _).symm.trans H; rw [hy183]; with_reducible exact H2_) | (have H2_ := (Option.bind_some _ _).symm.trans H; with_reducible exact H2_) | with_reducible exact H | (rw [hy183]; exact H) | exact H
          have Ny183 := aM hy183
          clear hy183
          have H' := aM H
          clear H
          have p182 : 0 ≤ (x27_2 : Int) := of_decide_eq_true (by first | (with_reducible assumption) | assumption)
          have q182 : x27_2 < (l0.length : Int) := of_decide_eq_true (by first | (with_reducible assumption) | assumption)
          obtain ⟨ad182, A182_0, c182_0, e182, hx182_0, hl182_0, hi182_0⟩ := at_L1 HR0.out x27_2 p182 q182
          cases e182
          replace hx182_0 := (HB.out.cell (World.block_lt_of_cell? w _ hx182_0)).trans hx182_0
          have HR182_0 := aM hi182_0
          have HC182_0 := aM hl182_0
          clear hi182_0 hl182_0
          replace p182 := eq_true p182
          replace q182 := eq_true q182
          go_wp2_with (first | ((with_reducible refine gate_builtin (b := .append) (xs := #[.tmp 31, .tmp 32]) rfl ?_); at_builtin; refine Kd.R_append_rows (Kd.int .u8) (w0 := w) w.heap.size rfl (.tmp 31) (.tmp 32) 22 5 (.int .u8 0) 1 rfl Try.underlying22 info5 rfl (by decide) (by omega) u6 x6_2 (rd_L1 l0 x27_2) _ _ _ (fun _ => True) (fun _ => False) rfl rfl ?aO ?aR (fun _ _ h => h) (fun _ h => h.elim) ?aF ?aB ?aS ?aL ?_; (case aR => exact xC (Kd.C_below HR182_0.out HB.out)); (case aB => exact (xB HB.out)); (case aF => exact (fun _ _ => trivial)); (case aO => exact (xR HO_6.out)); (case aS => exact (below_size (xB HB.out))); (case aL => have := LMc11.out; omega); intro v184 w12 ho hb hg hat; rw [← Ny183.out] at ho; have n0_ := aM (hb); have n1_ := aM (ho); clear HB; clear HO_6; have HB := n0_; have HO185 := n1_; clear n0_ n1_; clear ho hb hg hat))
          go_roundg k2
          case measure => have := HK1.out; have := HK2.out; omega
          case rel => exact ⟨(y183), (wrap64 (x27_2 + 1)), (by first | rfl | (simp; done) | (simp [*]; done)), H', ⟨by have := HK1.out; have := HK2.out; omega⟩, ⟨by (with_reducible repeat (first | apply Kd.R_alloc | apply Kd.R_drewN | apply Kd.R_drew)); exact HO185.out⟩, ⟨xB HB.out⟩⟩
         ·
          rw [if_neg c11] at H
          exact absurd H (by simp)
        ·
         rw [if_neg c10] at H
         exact absurd H (by simp)
       ·
        rw [if_neg c9] at H
        exact absurd H (by simp)
      ·
       rw [if_neg c8] at H
       have c8b0 : decide (x27_2 < (l0.length : Int)) = false := decide_eq_false c8
       clear c8
       obtain rfl := Option.some.inj H
       go_wp2
       go_ret
       exact ⟨_, by first | rfl | (simp [errW_none, errW_some] <;> rfl) | (simp [*, errW_none, errW_some] <;> rfl), by (with_reducible repeat (first | apply Kd.R_alloc | apply Kd.R_drewN | apply Kd.R_drew)); exact HO_6.out, xB HB.out⟩
end Go.Proofs.Ythaifibhflfpkaa.Q
end
