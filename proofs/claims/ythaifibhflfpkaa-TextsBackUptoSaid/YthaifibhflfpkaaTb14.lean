/- A part of the claim's own texts: words, walks and plain laws. -/
import Derived.Test.YthaifibhflfpkaaTb2
import Derived.Test.YthaifibhflfpkaaTb8
import Derived.Test.YthaifibhflfpkaaTb12
import Derived.Test.YthaifibhflfpkaaTb10
import Derived.Test.YthaifibhflfpkaaTb13
import Derived.Test.YthaifibhflfpkaaTb9
namespace Go.Proofs.YthaifibhflfpkaaX
abbrev b113_ : Array Bool := #[false, false, false, false, false, false, false, false, false, false, false, false]
abbrev b114_ : Array Bool := #[true, false, false, false, false, false, false, false, false, false, false, false]
abbrev b115_ : Array Bool := #[true, true, false, false, false, false, false, false, false, false, false, false]
abbrev b116_ : Array Bool := #[true, true, true, false, false, false, false, false, false, false, false, false]
abbrev b117_ : Array Bool := #[true, true, true, true, false, false, false, false, false, false, false, false]
abbrev b118_ : Array Bool := #[true, true, true, true, true, false, false, false, false, false, false, false]
abbrev b119_ : Array Bool := #[true, true, true, true, true, false, true, false, false, false, false, false]
abbrev b120_ : Array Bool := #[true, true, true, true, true, false, true, true, false, false, false, false]
abbrev b121_ : Array Bool := #[true, true, true, true, true, false, true, true, true, false, false, false]
abbrev b122_ : Array Bool := #[true, true, true, true, true, true, true, true, true, false, false, false]
abbrev b123_ : Array Bool := #[true, true, true, true, true, true, true, true, true, true, false, false]
abbrev b124_ : Array Bool := #[true, true, true, true, true, true, true, true, true, true, true, false]
abbrev b125_ : Array Bool := #[true, true, true, true, true, true, true, true, true, true, true, true]
end Go.Proofs.YthaifibhflfpkaaX
section
namespace Go.Proofs.Ythaifibhflfpkaa.Q
open Go.RowKit Go.Proofs.YthaifibhflfpkaaW.PrintWords Go.Proofs.YthaifibhflfpkaaW.PrintLast Go.Proofs.YthaifibhflfpkaaW.PrintMore Go.Proofs.YthaifibhflfpkaaX
attribute [local go_sem] max2_int min2_int max_two min_two max_three min_three max_four min_four   -- for this text's walks alone
set_option linter.unusedVariables false
set_option linter.unusedSimpArgs false
mutual
def texts_Take.j0 : Nat → List Int → List Int → Int → Bool → Option ((List (List Int)) × Int × Int)
 | 0, _, _, _, _ => none
 | k + 1, x0, x5, x6, x34 => if x34 = true then (some (([] : List (List Int)), 0, 2)) else (texts_Take.l0 k x0 x5 (wrap64 (1 + x6)) 0 x5 (x5.length : Int) 0)
def texts_Take.l0 : Nat → List Int → List Int → Int → Int → List Int → Int → Int → Option ((List (List Int)) × Int × Int)
 | 0, _, _, _, _, _, _, _ => none
 | k + 1, x0, x5, x8, x9, x37, x38, x39 => if x39 < x38 then (if 0 ≤ x39 then (if x39 < (x37.length : Int) then (if (rd x37 x39) > 65536 then (some (([] : List (List Int)), 0, 2)) else (texts_Take.l0 k x0 x5 x8 (wrap64 (x9 + (wrap64 (rd x37 x39)))) x37 x38 (wrap64 (x39 + 1)))) else (none)) else (none)) else (if 0 ≤ x8 then (if x8 ≤ (x0.length : Int) then ((num_TakeRow.f k (x0.drop (x8 : Int).toNat) (x0.length : Int)).bind fun bt738 => (if bt738.2.2 = 0 then (if 0 < (x0.length : Int) then ((texts_meaning.f k (rd x0 0) bt738.1 x9).bind fun bt744 => (if bt744.2 = 0 then (texts_Take.j2 k x5 x8 bt738.2.1 bt744.1 ((bt744.1.length : Int) != x9)) else (texts_Take.j2 k x5 x8 bt738.2.1 bt744.1 true))) else (none)) else (some (([] : List (List Int)), 0, 2)))) else (none)) else (none))
def texts_Take.j2 : Nat → List Int → Int → Int → List Int → Bool → Option ((List (List Int)) × Int × Int)
 | 0, _, _, _, _, _ => none
 | k + 1, x5, x8, x13, x14, x78 => if x78 = true then (some (([] : List (List Int)), 0, 2)) else (if 0 ≤ (x5.length : Int) then (if ((x5.length : Int) : Int).toNat ≤ 11728124029610 then (texts_Take.l1 k x8 x13 x14 (List.replicate ((x5.length : Int) : Int).toNat []) x5 (x5.length : Int) 0) else (none)) else (none))
def texts_Take.l1 : Nat → Int → Int → List Int → List (List Int) → List Int → Int → Int → Option ((List (List Int)) × Int × Int)
 | 0, _, _, _, _, _, _, _ => none
 | k + 1, x8, x13, x14, x15, x82, x83, x84 => if x84 < x83 then (if 0 ≤ x84 then (if x84 < (x82.length : Int) then (if 0 ≤ (rd x82 x84) then (if (rd x82 x84) ≤ (x14.length : Int) then ((bytes_Clone.f (x14.take ((rd x82 x84) : Int).toNat)).bind fun t757 => (if x84 < (x15.length : Int) then (texts_Take.l1 k x8 x13 (x14.drop ((rd x82 x84) : Int).toNat) (x15.set (x84 : Int).toNat t757) x82 x83 (wrap64 (x84 + 1))) else (none))) else (none)) else (none)) else (none)) else (none)) else (some (x15, wrap64 (x8 + x13), 0))
end
def texts_Take.f (k : Nat) (l0 : List Int) : Option ((List (List Int)) × Int × Int) := if (l0.length : Int) = 0 then (some (([] : List (List Int)), 0, 2)) else (if 1 ≤ (l0.length : Int) then ((pfor_TakeList.f k (l0.drop 1) 16).bind fun bt728 => (if bt728.2.2 = 0 then (texts_Take.j0 k l0 bt728.1 bt728.2.1 ((bt728.1.length : Int) == 0)) else (texts_Take.j0 k l0 bt728.1 bt728.2.1 true))) else (none))
def texts_Take.T24 : Bool × List (List Nat × List Nat) := (true, [([], []), ([], []), ([], []), ([], []), ([2, 3], [2, 3]), ([4], [4]), ([], []), ([], []), ([6, 7], [6, 7]), ([0, 1, 0, 1, 2, 3, 4, 5], [0, 1]), ([9, 5, 5, 0, 1, 2, 3, 4, 5], [5, 9]), ([8, 10, 0, 1, 2, 3, 4, 5, 6, 7, 8, 9, 10], [2, 6, 8])])
def texts_Take.B24 : List Nat := [0, 0, 0, 0, 12, 28, 0, 0, 192, 63, 575, 2047]
theorem texts_Take.tab24 : rtab .any (opsOf Try.f13 24) = texts_Take.T24 := by kernel_rfl
theorem texts_Take.bits24 : waitsOk texts_Take.T24.2 texts_Take.B24 = true := by kernel_rfl
set_option maxHeartbeats 8000000 in
set_option maxRecDepth 100000 in
theorem texts_Take.calls (k : Nat) (A0 : Option Addr) (c0 : Nat) (l0 : List Int) (r1 : List (List Int)) (r2 : Int) (r3 : Int) (w : World) (hr0 : Kd.C (Kd.int .u8) w A0 l0.length l0) (hc0 : l0.length ≤ c0) (h : texts_Take.f k l0 = some (r1, r2, r3)) :
  Calls Try.prog 13 #[.slice A0 l0.length c0] w fun e w' => ∃ v0_ : Value, e = .returned (.tuple #[v0_, .int .i64 r2, .int .i64 r3]) ∧ Kd.N (Kd.slice 5 (Kd.int .u8)) 22 w' w.heap.size (fun k_ => (w.heap.size ≤ k_)) v0_ r1 ∧ Below w.heap.size w w' := by
 have HR0 := aM hr0
 have HC0 := aM hc0
 clear hr0 hc0
 have HB := aM (Below.refl w.heap.size w)
 have H : (if (l0.length : Int) = 0 then (some (([] : List (List Int)), 0, 2)) else (if 1 ≤ (l0.length : Int) then ((pfor_TakeList.f k (l0.drop 1) 16).bind fun bt728 => (if bt728.2.2 = 0 then (texts_Take.j0 k l0 bt728.1 bt728.2.1 ((bt728.1.length : Int) == 0)) else (texts_Take.j0 k l0 bt728.1 bt728.2.1 true))) else (none))) = some (r1, r2, r3) := h
 clear h
 by_cases c2 : (l0.length : Int) = 0
 ·
  rw [if_pos c2] at H
  have c2b0 : ((l0.length : Int) == 0) = true := beq_iff_eq.mpr c2
  have c2b1 : ((l0.length : Int) != 0) = false := bne_eq_false_iff_eq.mpr c2
  clear c2
  simp only [Option.some.injEq, Prod.mk.injEq] at H
  obtain ⟨rfl, rfl, rfl⟩ := H
  go_enter Try.func13, Try.ntmps13
  go_wp2
  go_ret3
  exact ⟨_, by first | rfl | (simp [errW_none, errW_some] <;> rfl) | (simp [*, errW_none, errW_some] <;> rfl), by first | exact Kd.S_nil _ _ _ _ _ | exact Kd.N_nil _ _ _ _ _ | exact Kd.V_nil _ _ _ _ _ | exact Kd.Q_nil _ _ _ _ _ | exact Kd.R_nil _ _ _ _ _, xB HB.out⟩
 ·
  rw [if_neg c2] at H
  have c2b0 : ((l0.length : Int) == 0) = false := beq_eq_false_iff_ne.mpr c2
  have c2b1 : ((l0.length : Int) != 0) = true := bne_iff_ne.mpr c2
  have c2b2 : ¬ (l0 = []) := fun h_ => c2 (by rw [h_]; rfl)
  by_cases c3 : 1 ≤ (l0.length : Int)
  ·
   rw [if_pos c3] at H
   have c3b0 := eq_true c3
   have c3b1 : decide (1 ≤ (l0.length : Int)) = true := decide_eq_true c3
   clear c3
   obtain ⟨y724, hy724⟩ : ∃ y_ : List Int, y_ = (l0.drop 1) := ⟨_, rfl⟩
   replace H : ((pfor_TakeList.f k y724 16).bind fun bt728 => (if bt728.2.2 = 0 then (texts_Take.j0 k l0 bt728.1 bt728.2.1 ((bt728.1.length : Int) == 0)) else (texts_Take.j0 k l0 bt728.1 bt728.2.1 true))) = some (r1, r2, r3) := by first | (rw [hy724]; with_reducible exact H) | (have H2_ := (Option.bind_some _ _).symm.trans H; rw [hy724]; with_reducible exact H2_) | (have H2_ := (Option.bind_some _ _).symm.trans H; with_reducible exact H2_) | with_reducible exact H | (rw [hy724]; exact H) | exact H
   have Ny724 := aM hy724
   clear hy724
   replace H := Option.bind_eq_some_iff.mp H
   obtain ⟨⟨t728, t729, t730⟩, A40, H⟩ := H
   replace H : (if t730 = 0 then (texts_Take.j0 k l0 t728 t729 ((t728.length : Int) == 0)) else (texts_Take.j0 k l0 t728 t729 true)) = some (r1, r2, r3) := H
   have A4 := aM A40
   clear A40
   have HC5 := aM H
   clear H
   have q6 : (1 : Int) ≤ ((l0.length : Int) : Int) := of_decide_eq_true (by first | (with_reducible assumption) | assumption)
   obtain ⟨i06, hi06, _, hsz6, _⟩ := info_parts info5
   have hroom6 : l0.length ≤ c0 := HC0.out
   have hC6 : Kd.C (Kd.int .u8) _ A0 l0.length l0 := HR0.out
   have hcut6 := cut_from (P := Try.prog) 22 5 .i64 Try.underlying22 hi06 1 hsz6 A0 l0.length c0 1 (by omega) q6
   have hr6 := Kd.C_drop (m := (1 : Int).toNat) (c := c0) hC6 (by omega) hroom6
   obtain ⟨A6, hA6⟩ : ∃ A_z, A_z = (if c0 = (1 : Int).toNat then A0 else (A0 : Option Addr).map (·.add ((1 : Int).toNat * 1))) := ⟨_, rfl⟩
   obtain ⟨c6, hc6⟩ : ∃ c_z, c_z = c0 - (1 : Int).toNat := ⟨_, rfl⟩
   have hy6 : y724.length = l0.length - (1 : Int).toNat := (by rw [Ny724.out, List.length_drop] <;> omega)
   rw [show (l0).drop (1 : Int).toNat = y724 from Ny724.out.symm] at hr6
   replace hr6 : Kd.C (Kd.int .u8) _ A6 y724.length y724 := (by rw [hA6]; exact hr6)
   rw [← hy6, ← hA6, ← hc6] at hcut6
   have HR727 := aM hr6
   have HC727 := aM (show y724.length ≤ c6 from by rw [hy6, hc6]; exact Nat.sub_le_sub_right hroom6 _)
   clear hr6 hC6 hroom6 hi06 hsz6 hc6
   have KY6 := aM hy6
   have KA6 := aM hA6
   clear hy6 hA6
   replace q6 := eq_true q6
   go_enter Try.func13, Try.ntmps13
   go_upto_region 4 with (first | ((with_reducible refine gate_callee (f := 31) rfl ?_); refine goesL_ (some 24) rfl rfl Try.func31 (by kernel_rfl) rfl #[.slice A6 y724.length c6, .int .i64 16] rfl (by (try simp only [List.map_toArray, List.map_cons, List.map_nil]); first | done | rfl | (simp only [List.length_drop, List.length_take]; rfl)) ?_; (with_reducible refine (pfor_TakeList.calls k _ _ y724 16 t728 t729 t730 _ ?side1 ?side2 A4.out).mono ?_); (case side1 => exact xC HR727.out); (case side2 => exact HC727.out); rintro e w7 ⟨v731, rfl, ho0, hb⟩; refine ⟨_, rfl, ?_⟩; have n0_ := aM (Kd.R_lower (Kd.R_newM (M := fun k_ => (w.heap.size ≤ k_)) ho0 (below_size (xB HB.out)) (fun k_ h_ => h_)) (below_size (xB HB.out))); have n1_ := aM (below_step (xB HB.out) hb); clear HB; have HO732 := n0_; have HB := n1_; clear n0_ n1_; (try clear hb); (try clear hb2); (try clear hk); (try clear hi); (try clear ho0)))
   (try simp only [xQ])
   go_cut [34] (fun v34 wc => ∃ (kq : Nat) (x34_4 : Bool), v34 = .bool x34_4 ∧ Aside0 (texts_Take.j0 kq l0 t728 t729 x34_4 = some (r1, r2, r3)) ∧ Aside0 (kq ≤ k) ∧ Aside0 (Kd.R (Kd.int .u64) 40 wc w.heap.size (fun k_ => (w.heap.size ≤ k_)) v731 t728) ∧ Aside0 (Below w.heap.size w wc))
   case first =>
    have H := HC5.out
    clear HC5
    by_cases c8 : t730 = 0
    ·
     rw [if_pos c8] at H
     have c8b0 : (t730 == 0) = true := beq_iff_eq.mpr c8
     have c8b1 : (t730 != 0) = false := bne_eq_false_iff_eq.mpr c8
     clear c8
     (first | rw [c8b0] | (simp only [i64_w, i32_w]; rw [c8b0]) | skip)
     have H' := aM H
     clear H
     obtain ⟨Ao9, co9, eo9⟩ := Kd.R_slice HO732.out
     subst eo9
     go_wp2
     go_meet
     case rel => exact ⟨_, (((t728.length : Int) == 0)), (by first | rfl | (simp; done) | (simp [*]; done)), H', ⟨by first | omega | exact Nat.le_refl _⟩, ⟨by (with_reducible repeat (first | apply Kd.R_alloc | apply Kd.R_drewN | apply Kd.R_drew)); exact Kd.R_mono HO732.out (fun _ hk => hk.1)⟩, ⟨xB HB.out⟩⟩
    ·
     rw [if_neg c8] at H
     have c8b0 : (t730 == 0) = false := beq_eq_false_iff_ne.mpr c8
     have c8b1 : (t730 != 0) = true := bne_iff_ne.mpr c8
     (first | rw [c8b0] | (simp only [i64_w, i32_w]; rw [c8b0]) | skip)
     have H' := aM H
     clear H
     go_wp2
     go_meet
     case rel => exact ⟨_, (true), (by first | rfl | (simp; done) | (simp [*]; done)), H', ⟨by first | omega | exact Nat.le_refl _⟩, ⟨by (with_reducible repeat (first | apply Kd.R_alloc | apply Kd.R_drewN | apply Kd.R_drew)); exact Kd.R_mono HO732.out (fun _ hk => hk.1)⟩, ⟨xB HB.out⟩⟩
   case rest =>
    clear HC5
    try clear c1
    try clear c2
    try clear c2b0
    try clear c2b1
    try clear c2b2
    try clear p2
    try clear c3
    try clear c3b0
    try clear c3b1
    try clear c6
    try clear q6
    try clear c8
    try clear c8b0
    try clear c8b1
    try clear q6
    obtain ⟨kq, x34_4, rfl, HA, HJ4, HO_5, HB⟩ := hcut
    cases kq with
    | zero => exact absurd HA.out (by simp [texts_Take.j0])
    | succ kj4 =>
     have H := HA.out
     clear HA
     simp only [texts_Take.j0] at H
     by_cases c10 : x34_4 = true
     ·
      subst c10
      have H1 : (some (([] : List (List Int)), 0, 2)) = some (r1, r2, r3) := by rw [if_pos rfl] at H; exact H
      clear H
      have H := H1
      clear H1
      simp only [Option.some.injEq, Prod.mk.injEq] at H
      obtain ⟨rfl, rfl, rfl⟩ := H
      go_wp2
      go_ret3
      exact ⟨_, by first | rfl | (simp [errW_none, errW_some] <;> rfl) | (simp [*, errW_none, errW_some] <;> rfl), by first | exact Kd.S_nil _ _ _ _ _ | exact Kd.N_nil _ _ _ _ _ | exact Kd.V_nil _ _ _ _ _ | exact Kd.Q_nil _ _ _ _ _ | exact Kd.R_nil _ _ _ _ _, xB HB.out⟩
     ·
      replace c10 := Bool.eq_false_iff.mpr c10
      subst c10
      have H1 : (texts_Take.l0 kj4 l0 t728 (wrap64 (1 + t729)) 0 t728 (t728.length : Int) 0) = some (r1, r2, r3) := by rw [if_neg (show ¬ (false = true) by decide)] at H; exact H
      clear H
      have H := H1
      clear H1
      have H' := aM H
      clear H
      obtain ⟨Ao11, co11, eo11⟩ := Kd.R_slice HO_5.out
      subst eo11
      go_wp2
      go_loopg [9, 39] kj4 (fun kq v9 v39 w' => ∃ (x9_2 : Int) (x39_2 : Int), v9 = .int .i64 x9_2 ∧ v39 = .int .i64 x39_2 ∧ Aside0 (texts_Take.l0 kq l0 t728 (wrap64 (1 + t729)) x9_2 t728 (t728.length : Int) x39_2 = some (r1, r2, r3)) ∧ Aside0 (kq ≤ kj4) ∧ Aside0 (Kd.R (Kd.int .u64) 40 w' w.heap.size (fun k_ => (w.heap.size ≤ k_)) (.slice Ao11 t728.length co11) t728) ∧ Aside0 (Kd.R (Kd.int .u64) 40 w' w.heap.size (fun k_ => (w.heap.size ≤ k_)) (.slice Ao11 t728.length co11) t728) ∧ Aside0 (Below w.heap.size w w'))
      case atStart => exact ⟨(0), (0), (by first | rfl | (simp; done) | (simp [*]; done)), (by first | rfl | (simp; done) | (simp [*]; done)), H', ⟨Nat.le_refl _⟩, ⟨by (with_reducible repeat (first | apply Kd.R_alloc | apply Kd.R_drewN | apply Kd.R_drew)); exact HO_5.out⟩, ⟨by (with_reducible repeat (first | apply Kd.R_alloc | apply Kd.R_drewN | apply Kd.R_drew)); exact HO_5.out⟩, ⟨xB HB.out⟩⟩
      case round =>
       clear H'
       try clear c1
       try clear c2
       try clear c2b0
       try clear c2b1
       try clear c2b2
       try clear p2
       try clear c3
       try clear c3b0
       try clear c3b1
       try clear c6
       try clear p6
       try clear q6
       try clear c8
       try clear c8b0
       try clear c8b1
       try clear c10
       try clear p2
       try clear q6
       obtain ⟨x9_2, x39_2, rfl, rfl, HA, HK2, HO_5, HO_37, HB⟩ := hrel
       cases gk with
       | zero => exact absurd HA.out (by simp [texts_Take.l0])
       | succ k2 =>
        have H := HA.out
        clear HA
        simp only [texts_Take.l0] at H
        by_cases c12 : x39_2 < (t728.length : Int)
        ·
         rw [if_pos c12] at H
         have c12b0 : decide (x39_2 < (t728.length : Int)) = true := decide_eq_true c12
         clear c12
         by_cases c13 : 0 ≤ x39_2
         ·
          rw [if_pos c13] at H
          have c13b0 : decide (0 ≤ x39_2) = true := decide_eq_true c13
          clear c13
          by_cases c14 : x39_2 < (t728.length : Int)
          ·
           rw [if_pos c14] at H
           have c14b0 : decide (x39_2 < (t728.length : Int)) = true := decide_eq_true c14
           clear c14
           by_cases c15 : (rd t728 x39_2) > 65536
           ·
            rw [if_pos c15] at H
            have c15b0 : decide (65536 < (rd t728 x39_2)) = true := decide_eq_true c15
            clear c15
            simp only [Option.some.injEq, Prod.mk.injEq] at H
            obtain ⟨rfl, rfl, rfl⟩ := H
            have p733 : 0 ≤ (x39_2 : Int) := of_decide_eq_true (by first | (with_reducible assumption) | assumption)
            have q733 : x39_2 < (t728.length : Int) := of_decide_eq_true (by first | (with_reducible assumption) | assumption)
            obtain ⟨ad733, e733, hx733_0⟩ := Kd.at_int (Kd.R_reads' HO_37.out).2.2 x39_2 p733 q733
            cases e733
            replace p733 := eq_true p733
            replace q733 := eq_true q733
            go_wp2
            go_ret3
            exact ⟨_, by first | rfl | (simp [errW_none, errW_some] <;> rfl) | (simp [*, errW_none, errW_some] <;> rfl), by first | exact Kd.S_nil _ _ _ _ _ | exact Kd.N_nil _ _ _ _ _ | exact Kd.V_nil _ _ _ _ _ | exact Kd.Q_nil _ _ _ _ _ | exact Kd.R_nil _ _ _ _ _, xB HB.out⟩
           ·
            rw [if_neg c15] at H
            have c15b0 : decide (65536 < (rd t728 x39_2)) = false := decide_eq_false c15
            clear c15
            have H' := aM H
            clear H
            have p733 : 0 ≤ (x39_2 : Int) := of_decide_eq_true (by first | (with_reducible assumption) | assumption)
            have q733 : x39_2 < (t728.length : Int) := of_decide_eq_true (by first | (with_reducible assumption) | assumption)
            obtain ⟨ad733, e733, hx733_0⟩ := Kd.at_int (Kd.R_reads' HO_37.out).2.2 x39_2 p733 q733
            cases e733
            replace p733 := eq_true p733
            replace q733 := eq_true q733
            go_wp2
            go_roundg k2
            case measure => have := HJ4.out; have := HK2.out; omega
            case rel => exact ⟨(wrap64 (x9_2 + (wrap64 (rd t728 x39_2)))), (wrap64 (x39_2 + 1)), (by first | rfl | (simp; done) | (simp [*]; done)), (by first | rfl | (simp; done) | (simp [*]; done)), H', ⟨by have := HJ4.out; have := HK2.out; omega⟩, ⟨by (with_reducible repeat (first | apply Kd.R_alloc | apply Kd.R_drewN | apply Kd.R_drew)); exact HO_5.out⟩, ⟨by (with_reducible repeat (first | apply Kd.R_alloc | apply Kd.R_drewN | apply Kd.R_drew)); exact HO_37.out⟩, ⟨xB HB.out⟩⟩
          ·
           rw [if_neg c14] at H
           exact absurd H (by simp)
         ·
          rw [if_neg c13] at H
          exact absurd H (by simp)
        ·
         rw [if_neg c12] at H
         have c12b0 : decide (x39_2 < (t728.length : Int)) = false := decide_eq_false c12
         clear c12
         obtain ⟨ji16, hji16⟩ : ∃ j_ : Int, (wrap64 (1 + t729)) = j_ := ⟨_, rfl⟩
         replace H : (if 0 ≤ (ji16) then (if (ji16) ≤ (l0.length : Int) then ((num_TakeRow.f k2 (l0.drop ((ji16) : Int).toNat) (l0.length : Int)).bind fun bt738 => (if bt738.2.2 = 0 then (if 0 < (l0.length : Int) then ((texts_meaning.f k2 (rd l0 0) bt738.1 x9_2).bind fun bt744 => (if bt744.2 = 0 then (texts_Take.j2 k2 t728 (ji16) bt738.2.1 bt744.1 ((bt744.1.length : Int) != x9_2)) else (texts_Take.j2 k2 t728 (ji16) bt738.2.1 bt744.1 true))) else (none)) else (some (([] : List (List Int)), 0, 2)))) else (none)) else (none)) = some (r1, r2, r3) := by first | (rw [hji16] at H; exact H) | (simp only [hji16] at H ⊢; exact H)
         have hji16w : (IntKind.i64.wrap (1 + t729)) = ji16 := (i64_w _).trans hji16
         by_cases c17 : 0 ≤ (ji16)
         ·
          rw [if_pos c17] at H
          have c17b0 := eq_true c17
          have c17b1 : decide (0 ≤ (ji16)) = true := decide_eq_true c17
          clear c17
          by_cases c18 : (ji16) ≤ (l0.length : Int)
          ·
           rw [if_pos c18] at H
           have c18b0 := eq_true c18
           have c18b1 : decide ((ji16) ≤ (l0.length : Int)) = true := decide_eq_true c18
           clear c18
           obtain ⟨y734, hy734⟩ : ∃ y_ : List Int, y_ = (l0.drop ((ji16) : Int).toNat) := ⟨_, rfl⟩
           replace H : ((num_TakeRow.f k2 y734 (l0.length : Int)).bind fun bt738 => (if bt738.2.2 = 0 then (if 0 < (l0.length : Int) then ((texts_meaning.f k2 (rd l0 0) bt738.1 x9_2).bind fun bt744 => (if bt744.2 = 0 then (texts_Take.j2 k2 t728 (ji16) bt738.2.1 bt744.1 ((bt744.1.length : Int) != x9_2)) else (texts_Take.j2 k2 t728 (ji16) bt738.2.1 bt744.1 true))) else (none)) else (some (([] : List (List Int)), 0, 2)))) = some (r1, r2, r3) := by first | (rw [hy734]; with_reducible exact H) | (have H2_ := (Option.bind_some _ _).symm.trans H; rw [hy734]; with_reducible exact H2_) | (have H2_ := (Option.bind_some _ _).symm.trans H; with_reducible exact H2_) | with_reducible exact H | (rw [hy734]; exact H) | exact H
           have Ny734 := aM hy734
           clear hy734
           replace H := Option.bind_eq_some_iff.mp H
           obtain ⟨⟨t738, t739, t740⟩, A190, H⟩ := H
           replace H : (if t740 = 0 then (if 0 < (l0.length : Int) then ((texts_meaning.f k2 (rd l0 0) t738 x9_2).bind fun bt744 => (if bt744.2 = 0 then (texts_Take.j2 k2 t728 (ji16) t739 bt744.1 ((bt744.1.length : Int) != x9_2)) else (texts_Take.j2 k2 t728 (ji16) t739 bt744.1 true))) else (none)) else (some (([] : List (List Int)), 0, 2))) = some (r1, r2, r3) := H
           have A19 := aM A190
           clear A190
           by_cases c20 : t740 = 0
           ·
            rw [if_pos c20] at H
            have c20b0 : (t740 == 0) = true := beq_iff_eq.mpr c20
            have c20b1 : (t740 != 0) = false := bne_eq_false_iff_eq.mpr c20
            clear c20
            by_cases c21 : 0 < (l0.length : Int)
            ·
             rw [if_pos c21] at H
             have c21b0 : decide (0 < (l0.length : Int)) = true := decide_eq_true c21
             have c21b1 : decide (0 < l0.length) = true := decide_eq_true (by omega)
             clear c21
             replace H := Option.bind_eq_some_iff.mp H
             obtain ⟨⟨t744, t747⟩, A220, H⟩ := H
             replace H : (if t747 = 0 then (texts_Take.j2 k2 t728 (ji16) t739 t744 ((t744.length : Int) != x9_2)) else (texts_Take.j2 k2 t728 (ji16) t739 t744 true)) = some (r1, r2, r3) := H
             have A22 := aM A220
             clear A220
             have HC23 := aM H
             clear H
             have q24 : ((ji16) : Int) ≤ ((l0.length : Int) : Int) := of_decide_eq_true (by first | (with_reducible assumption) | assumption)
             obtain ⟨i024, hi024, _, hsz24, _⟩ := info_parts info5
             have hroom24 : l0.length ≤ c0 := HC0.out
             have hC24 : Kd.C (Kd.int .u8) _ A0 l0.length l0 := HR0.out
             have q024 : (0 : Int) ≤ ((ji16) : Int) := of_decide_eq_true (by first | (with_reducible assumption) | assumption)
             have hcut24 := cut_from (P := Try.prog) 22 5 .i64 Try.underlying22 hi024 1 hsz24 A0 l0.length c0 (ji16) q024 q24
             have hr24 := Kd.C_drop (m := ((ji16) : Int).toNat) (c := c0) hC24 (by omega) hroom24
             obtain ⟨A24, hA24⟩ : ∃ A_z, A_z = (if c0 = ((ji16) : Int).toNat then A0 else (A0 : Option Addr).map (·.add (((ji16) : Int).toNat * 1))) := ⟨_, rfl⟩
             obtain ⟨c24, hc24⟩ : ∃ c_z, c_z = c0 - ((ji16) : Int).toNat := ⟨_, rfl⟩
             have hy24 : y734.length = l0.length - ((ji16) : Int).toNat := (by rw [Ny734.out, List.length_drop] <;> omega)
             rw [show (l0).drop ((ji16) : Int).toNat = y734 from Ny734.out.symm] at hr24
             replace hr24 : Kd.C (Kd.int .u8) _ A24 y734.length y734 := (by rw [hA24]; exact hr24)
             rw [← hy24, ← hA24, ← hc24] at hcut24
             have HR737 := aM hr24
             have HC737 := aM (show y734.length ≤ c24 from by rw [hy24, hc24]; exact Nat.sub_le_sub_right hroom24 _)
             clear hr24 hC24 hroom24 hi024 hsz24 hc24
             have KY24 := aM hy24
             have KA24 := aM hA24
             clear hy24 hA24
             replace q24 := eq_true q24
             go_upto_region 18 with (first | ((with_reducible refine gate_callee (f := 32) rfl ?_); refine goesL_ (some 56) rfl rfl Try.func32 (by kernel_rfl) rfl #[.slice A24 y734.length c24, .int .i64 (l0.length : Int)] rfl (by (try simp only [List.map_toArray, List.map_cons, List.map_nil]); first | done | rfl | (simp only [List.length_drop, List.length_take]; rfl)) ?_; (with_reducible refine (num_TakeRow.calls k2 _ _ y734 (l0.length : Int) t738 t739 t740 _ ?side1 ?side2 A19.out).mono ?_); (case side1 => exact xC (Kd.C_below HR737.out HB.out)); (case side2 => exact HC737.out); rintro e w25 ⟨v741, rfl, ho0, hb⟩; refine ⟨_, rfl, ?_⟩; have n0_ := aM (Kd.R_below (xR HO_5.out) hb); have n1_ := aM (Kd.R_below (xR HO_37.out) hb); have n2_ := aM (Kd.R_lower (Kd.R_newM (M := fun k_ => (w.heap.size ≤ k_)) ho0 (below_size (xB HB.out)) (fun k_ h_ => h_)) (below_size (xB HB.out))); have n3_ := aM (below_step (xB HB.out) hb); clear HO_5; clear HO_37; clear HB; have HO_5 := n0_; have HO_37 := n1_; have HO742 := n2_; have HB := n3_; clear n0_ n1_ n2_ n3_; (try clear hb); (try clear hb2); (try clear hk); (try clear hi); (try clear ho0); have p743 : 0 ≤ (0 : Int) := (by omega); have q743 : 0 < (l0.length : Int) := of_decide_eq_true (by first | (with_reducible assumption) | assumption); obtain ⟨ad743, e743, hx743_0⟩ := Kd.at_int HR0.out 0 p743 q743; cases e743; have qi743 : (0 < l0.length) = True := eq_true (by omega); (try rw [show ((0 : Int)).toNat = 0 from rfl] at hx743_0); (try rw [Addr.add_zero'] at hx743_0); replace hx743_0 := (HB.out.cell (World.block_lt_of_cell? w _ hx743_0)).trans hx743_0; replace p743 := eq_true p743; replace q743 := eq_true q743; obtain ⟨Ao26, co26, eo26⟩ := Kd.R_slice HO742.out; subst eo26) | ((with_reducible refine gate_callee (f := 33) rfl ?_); refine goesL_ (some 68) rfl rfl Try.func33 (by kernel_rfl) rfl #[.int .u8 (rd l0 0), .slice Ao26 t738.length co26, .int .i64 x9_2] rfl (by (try simp only [List.map_toArray, List.map_cons, List.map_nil]); first | done | rfl | (simp only [List.length_drop, List.length_take]; rfl)) ?_; (with_reducible refine (texts_meaning.calls k2 (rd l0 0) _ _ t738 x9_2 t744 t747 _ ?side1 ?side2 A22.out).mono ?_); (case side1 => exact xC ((Kd.R_reads' HO742.out).2.2)); (case side2 => exact (Kd.R_reads' HO742.out).2.1); rintro e w27 ⟨v745, rfl, ho0, hb⟩; refine ⟨_, rfl, ?_⟩; have n0_ := aM (Kd.R_below (xR HO_5.out) hb); have n1_ := aM (Kd.R_below (xR HO_37.out) hb); have n2_ := aM (Kd.R_below (xR HO742.out) hb); have n3_ := aM (Kd.V_lower (Kd.V_mono (ok' := fun k_ => (w.heap.size ≤ k_) ∧ some k_ ≠ (.slice Ao11 t728.length co11 : Value).ownBlock ∧ some k_ ≠ (.slice Ao11 t728.length co11 : Value).ownBlock ∧ some k_ ≠ (.slice Ao26 t738.length co26 : Value).ownBlock) ho0 (fun k_ hk_ => ⟨(Nat.le_trans (below_size (xB HB.out)) hk_), (Kd.fresh' (Kd.R_lt (xR HO_5.out)) k_ hk_), (Kd.fresh' (Kd.R_lt (xR HO_37.out)) k_ hk_), (Kd.fresh' (Kd.R_lt (xR HO742.out)) k_ hk_)⟩)) (below_size (xB HB.out))); have n4_ := aM (below_step (xB HB.out) hb); clear HO_5; clear HO_37; clear HO742; clear HB; have HO_5 := n0_; have HO_37 := n1_; have HO742 := n2_; have HO746 := n3_; have HB := n4_; clear n0_ n1_ n2_ n3_ n4_; (try clear hb); (try clear hb2); (try clear hk); (try clear hi); (try clear ho0)))
             (try simp only [xQ])
             go_cut [78] (fun v78 wc => ∃ (kq : Nat) (x78_22 : Bool), v78 = .bool x78_22 ∧ Aside0 (texts_Take.j2 kq t728 (ji16) t739 t744 x78_22 = some (r1, r2, r3)) ∧ Aside0 (kq ≤ k2) ∧ Aside0 (Kd.R (Kd.int .u64) 40 wc w.heap.size (fun k_ => (w.heap.size ≤ k_)) (.slice Ao11 t728.length co11) t728) ∧ Aside0 (Kd.V (Kd.int .u8) 5 wc w.heap.size (fun k_ => (w.heap.size ≤ k_) ∧ some k_ ≠ ((.slice Ao11 t728.length co11) : Value).ownBlock) v745 t744) ∧ Aside0 (Below w.heap.size w wc))
             case first =>
              have H := HC23.out
              clear HC23
              by_cases c28 : t747 = 0
              ·
               rw [if_pos c28] at H
               have c28b0 : (t747 == 0) = true := beq_iff_eq.mpr c28
               have c28b1 : (t747 != 0) = false := bne_eq_false_iff_eq.mpr c28
               clear c28
               (first | rw [c28b0] | (simp only [i64_w, i32_w]; rw [c28b0]) | skip)
               have H' := aM H
               clear H
               obtain ⟨Ao29, co29, eo29⟩ := Kd.V_slice HO746.out
               subst eo29
               go_wp2
               go_meet
               case rel => exact ⟨_, (((t744.length : Int) != x9_2)), (by first | rfl | (simp; done) | (simp [*]; done)), H', ⟨by have := HJ4.out; have := HK2.out; first | omega | exact Nat.le_refl _⟩, ⟨by (with_reducible repeat (first | apply Kd.R_alloc | apply Kd.R_drewN | apply Kd.R_drew)); exact HO_5.out⟩, ⟨by (with_reducible repeat (first | apply Kd.V_alloc | apply Kd.V_drewN | apply Kd.V_drew)); exact Kd.V_mono HO746.out (fun _ hk => ⟨hk.1, hk.2.1⟩)⟩, ⟨xB HB.out⟩⟩
              ·
               rw [if_neg c28] at H
               have c28b0 : (t747 == 0) = false := beq_eq_false_iff_ne.mpr c28
               have c28b1 : (t747 != 0) = true := bne_iff_ne.mpr c28
               (first | rw [c28b0] | (simp only [i64_w, i32_w]; rw [c28b0]) | skip)
               have H' := aM H
               clear H
               go_wp2
               go_meet
               case rel => exact ⟨_, (true), (by first | rfl | (simp; done) | (simp [*]; done)), H', ⟨by have := HJ4.out; have := HK2.out; first | omega | exact Nat.le_refl _⟩, ⟨by (with_reducible repeat (first | apply Kd.R_alloc | apply Kd.R_drewN | apply Kd.R_drew)); exact HO_5.out⟩, ⟨by (with_reducible repeat (first | apply Kd.V_alloc | apply Kd.V_drewN | apply Kd.V_drew)); exact Kd.V_mono HO746.out (fun _ hk => ⟨hk.1, hk.2.1⟩)⟩, ⟨xB HB.out⟩⟩
             case rest =>
              clear HC23
              try clear c1
              try clear c2
              try clear c2b0
              try clear c2b1
              try clear c2b2
              try clear p2
              try clear q2
              try clear c3
              try clear c3b0
              try clear c3b1
              try clear c6
              try clear p6
              try clear q6
              try clear p7
              try clear q7
              try clear hx7
              try clear qi7
              try clear c8
              try clear c8b0
              try clear c8b1
              try clear c10
              try clear c12
              try clear c12b0
              try clear c13
              try clear c13b0
              try clear c14
              try clear c14b0
              try clear c15
              try clear c15b0
              try clear c17
              try clear c17b0
              try clear c17b1
              try clear c18
              try clear c18b0
              try clear c18b1
              try clear c20
              try clear c20b0
              try clear c20b1
              try clear c21
              try clear c21b0
              try clear c21b1
              try clear c24
              try clear q24
              try clear c28
              try clear c28b0
              try clear c28b1
              try clear hx733_0
              try clear hx743_0
              try clear p2
              try clear p6
              try clear p733
              try clear p743
              try clear q024
              try clear q24
              try clear q6
              try clear q733
              try clear q743
              obtain ⟨kq, x78_22, rfl, HA, HJ22, HO_5, HO_14, HB⟩ := hcut
              cases kq with
              | zero => exact absurd HA.out (by simp [texts_Take.j2])
              | succ kj22 =>
               have H := HA.out
               clear HA
               simp only [texts_Take.j2] at H
               by_cases c30 : x78_22 = true
               ·
                subst c30
                have H1 : (some (([] : List (List Int)), 0, 2)) = some (r1, r2, r3) := by rw [if_pos rfl] at H; exact H
                clear H
                have H := H1
                clear H1
                simp only [Option.some.injEq, Prod.mk.injEq] at H
                obtain ⟨rfl, rfl, rfl⟩ := H
                go_wp2
                go_ret3
                exact ⟨_, by first | rfl | (simp [errW_none, errW_some] <;> rfl) | (simp only [← hji16]; first | rfl | (simp [errW_none, errW_some] <;> rfl)) | (simp [*, errW_none, errW_some] <;> rfl), by first | exact Kd.S_nil _ _ _ _ _ | exact Kd.N_nil _ _ _ _ _ | exact Kd.V_nil _ _ _ _ _ | exact Kd.Q_nil _ _ _ _ _ | exact Kd.R_nil _ _ _ _ _, xB HB.out⟩
               ·
                replace c30 := Bool.eq_false_iff.mpr c30
                subst c30
                have H1 : (if 0 ≤ (t728.length : Int) then (if ((t728.length : Int) : Int).toNat ≤ 11728124029610 then (texts_Take.l1 kj22 (ji16) t739 t744 (List.replicate ((t728.length : Int) : Int).toNat []) t728 (t728.length : Int) 0) else (none)) else (none)) = some (r1, r2, r3) := by rw [if_neg (show ¬ (false = true) by decide)] at H; exact H
                clear H
                have H := H1
                clear H1
                by_cases c31 : 0 ≤ (t728.length : Int)
                ·
                 rw [if_pos c31] at H
                 have c31b0 := eq_true c31
                 have c31b1 : decide (0 ≤ (t728.length : Int)) = true := decide_eq_true c31
                 clear c31
                 by_cases c32 : ((t728.length : Int) : Int).toNat ≤ 11728124029610
                 ·
                  rw [if_pos c32] at H
                  have c32b0 := eq_true c32
                  have c32b1 : decide (((t728.length : Int) : Int).toNat ≤ 11728124029610) = true := decide_eq_true c32
                  clear c32
                  obtain ⟨y748, hy748⟩ : ∃ y_ : List (List Int), y_ = (List.replicate ((t728.length : Int) : Int).toNat []) := ⟨_, rfl⟩
                  replace H : (texts_Take.l1 kj22 (ji16) t739 t744 y748 t728 (t728.length : Int) 0) = some (r1, r2, r3) := by first | (rw [hy748]; with_reducible exact H) | (have H2_ := (Option.bind_some _ _).symm.trans H; rw [hy748]; with_reducible exact H2_) | (have H2_ := (Option.bind_some _ _).symm.trans H; with_reducible exact H2_) | with_reducible exact H | (rw [hy748]; exact H) | exact H
                  have Ny748 := aM hy748
                  clear hy748
                  have H' := aM H
                  clear H
                  go_wp2_with (first | ((with_reducible refine gate_dst (N := 81) rfl ?_); (try (refine gate_guard (by rfl) ?_; dsimp only)); refine Kd.N_make (Kd.slice 5 (Kd.int .u8)) _ 22 rfl (N' := 81) rfl 23 _ _ rfl (t728.length : Int) rfl rfl Try.underlying23 (.slice none 0 0) 24 info22 rfl (by decide) (by omega) [] (ok := fun k_ => wc.heap.size ≤ k_) (okp := fun _ => False) (Kd.FK_slice_mk (Nat.le_refl _) (Kd.F_nil _ _ _)) (fun _ hk => hk.elim) (Nat.le_refl _) (of_decide_eq_true (by first | (with_reducible assumption) | assumption)) (Nat.le_trans (Nat.mul_le_mul_right _ (of_decide_eq_true (by first | (with_reducible assumption) | assumption) : (t728.length : Int).toNat ≤ 11728124029610)) (by omega)) (Below.refl _ _) (Nat.le_refl _) ?_; intro v749 w33 ho34 hb hg_ hnew_; clear hg_ hnew_; (first | rw [← Ny748.out] at ho34 | (simp only [Int.reduceToNat] at ho34; rw [← Ny748.out] at ho34)); have n0_ := aM (Kd.R_below (xR HO_5.out) hb); have n1_ := aM (Kd.V_elder' (xV HO_14.out) (Kd.N_base ho34) hb); have n2_ := aM (Kd.N_lower (Kd.N_mono (ok' := fun k_ => (w.heap.size ≤ k_) ∧ some k_ ≠ (.slice Ao11 t728.length co11 : Value).ownBlock) ho34 (fun k_ hk_ => ⟨(Nat.le_trans (below_size (xB HB.out)) hk_), (Kd.fresh' (Kd.R_lt (xR HO_5.out)) k_ hk_)⟩)) (below_size (xB HB.out))); have n3_ := aM (below_step (xB HB.out) hb); clear HO_5; clear HO_14; clear HB; have HO_5 := n0_; have HO_14 := n1_; have HO750 := n2_; have HB := n3_; clear n0_ n1_ n2_ n3_; clear hb ho34))
                  go_loopg [14, 84] kj22 (fun kq v14 v84 w' => ∃ (x14_4 : List Int) (x15_4 : List (List Int)) (x84_4 : Int), v84 = .int .i64 x84_4 ∧ Aside0 (texts_Take.l1 kq (ji16) t739 x14_4 x15_4 t728 (t728.length : Int) x84_4 = some (r1, r2, r3)) ∧ Aside0 (kq ≤ kj22) ∧ Aside0 (Kd.V (Kd.int .u8) 5 w' w.heap.size (fun k_ => (w.heap.size ≤ k_) ∧ some k_ ≠ (v749 : Value).ownBlock ∧ some k_ ≠ ((.slice Ao11 t728.length co11) : Value).ownBlock) v14 x14_4) ∧ Aside0 (Kd.N (Kd.slice 5 (Kd.int .u8)) 22 w' w.heap.size (fun k_ => (w.heap.size ≤ k_) ∧ some k_ ≠ ((.slice Ao11 t728.length co11) : Value).ownBlock) v749 x15_4) ∧ Aside0 (Kd.R (Kd.int .u64) 40 w' w.heap.size (fun k_ => (w.heap.size ≤ k_)) (.slice Ao11 t728.length co11) t728) ∧ Aside0 (Below w.heap.size w w'))
                  case atStart => exact ⟨(t744), (y748), (0), (by first | rfl | (simp; done) | (simp [*]; done)), H', ⟨Nat.le_refl _⟩, ⟨by (with_reducible repeat (first | apply Kd.V_alloc | apply Kd.V_drewN | apply Kd.V_drew)); exact Kd.V_mono HO_14.out (fun _ hk => ⟨hk.1.1, ⟨hk.2, hk.1.2⟩⟩)⟩, ⟨by (with_reducible repeat (first | apply Kd.N_alloc | apply Kd.N_drewN | apply Kd.N_drew)); exact HO750.out⟩, ⟨by (with_reducible repeat (first | apply Kd.R_alloc | apply Kd.R_drewN | apply Kd.R_drew)); exact HO_5.out⟩, ⟨xB HB.out⟩⟩
                  case round =>
                   clear H'
                   try clear c1
                   try clear c2
                   try clear c2b0
                   try clear c2b1
                   try clear c2b2
                   try clear p2
                   try clear q2
                   try clear c3
                   try clear c3b0
                   try clear c3b1
                   try clear c6
                   try clear p6
                   try clear q6
                   try clear p7
                   try clear q7
                   try clear hx7
                   try clear qi7
                   try clear c8
                   try clear c8b0
                   try clear c8b1
                   try clear c10
                   try clear c12
                   try clear c12b0
                   try clear c13
                   try clear c13b0
                   try clear c14
                   try clear c14b0
                   try clear c15
                   try clear c15b0
                   try clear c17
                   try clear c17b0
                   try clear c17b1
                   try clear c18
                   try clear c18b0
                   try clear c18b1
                   try clear c20
                   try clear c20b0
                   try clear c20b1
                   try clear c21
                   try clear c21b0
                   try clear c21b1
                   try clear c24
                   try clear q24
                   try clear c28
                   try clear c28b0
                   try clear c28b1
                   try clear c30
                   try clear c31
                   try clear c31b0
                   try clear c31b1
                   try clear c32
                   try clear c32b0
                   try clear c32b1
                   try clear c33
                   try clear hx733_0
                   try clear hx743_0
                   try clear p2
                   try clear p6
                   try clear p7
                   try clear p733
                   try clear p743
                   try clear q024
                   try clear q2
                   try clear q24
                   try clear q6
                   try clear q7
                   try clear q733
                   try clear q743
                   obtain ⟨x14_4, x15_4, x84_4, rfl, HA, HK4, HO_14, HO_15, HO_82, HB⟩ := hrel
                   cases gk with
                   | zero => exact absurd HA.out (by simp [texts_Take.l1])
                   | succ k4 =>
                    have H := HA.out
                    clear HA
                    simp only [texts_Take.l1] at H
                    by_cases c35 : x84_4 < (t728.length : Int)
                    ·
                     rw [if_pos c35] at H
                     have c35b0 : decide (x84_4 < (t728.length : Int)) = true := decide_eq_true c35
                     clear c35
                     by_cases c36 : 0 ≤ x84_4
                     ·
                      rw [if_pos c36] at H
                      have c36b0 : decide (0 ≤ x84_4) = true := decide_eq_true c36
                      clear c36
                      by_cases c37 : x84_4 < (t728.length : Int)
                      ·
                       rw [if_pos c37] at H
                       have c37b0 : decide (x84_4 < (t728.length : Int)) = true := decide_eq_true c37
                       clear c37
                       by_cases c38 : 0 ≤ (rd t728 x84_4)
                       ·
                        rw [if_pos c38] at H
                        have c38b0 := eq_true c38
                        have c38b1 : decide (0 ≤ (rd t728 x84_4)) = true := decide_eq_true c38
                        clear c38
                        by_cases c39 : (rd t728 x84_4) ≤ (x14_4.length : Int)
                        ·
                         rw [if_pos c39] at H
                         have c39b0 := eq_true c39
                         have c39b1 : decide ((rd t728 x84_4) ≤ (x14_4.length : Int)) = true := decide_eq_true c39
                         clear c39
                         obtain ⟨y752, hy752⟩ : ∃ y_ : List Int, y_ = (x14_4.take ((rd t728 x84_4) : Int).toNat) := ⟨_, rfl⟩
                         replace H : ((bytes_Clone.f y752).bind fun t757 => (if x84_4 < (x15_4.length : Int) then (texts_Take.l1 k4 (ji16) t739 (x14_4.drop ((rd t728 x84_4) : Int).toNat) (x15_4.set (x84_4 : Int).toNat t757) t728 (t728.length : Int) (wrap64 (x84_4 + 1))) else (none))) = some (r1, r2, r3) := by first | (rw [hy752]; with_reducible exact H) | (have H2_ := (Option.bind_some _ _).symm.trans H; rw [hy752]; with_reducible exact H2_) | (have H2_ := (Option.bind_some _ _).symm.trans H; with_reducible exact H2_) | with_reducible exact H | (rw [hy752]; exact H) | exact H
                         have Ny752 := aM hy752
                         clear hy752
                         replace H := Option.bind_eq_some_iff.mp H
                         obtain ⟨t757, A400, H⟩ := H
                         replace H : (if x84_4 < (x15_4.length : Int) then (texts_Take.l1 k4 (ji16) t739 (x14_4.drop ((rd t728 x84_4) : Int).toNat) (x15_4.set (x84_4 : Int).toNat t757) t728 (t728.length : Int) (wrap64 (x84_4 + 1))) else (none)) = some (r1, r2, r3) := H
                         have A40 := aM A400
                         clear A400
                         have c41b0 := eq_true (of_decide_eq_true (by first | (with_reducible assumption) | assumption) : 0 ≤ (rd t728 x84_4))
                         have c42b0 := eq_true (of_decide_eq_true (by first | (with_reducible assumption) | assumption) : (rd t728 x84_4) ≤ (x14_4.length : Int))
                         obtain ⟨y760, hy760⟩ : ∃ y_ : List Int, y_ = (x14_4.drop ((rd t728 x84_4) : Int).toNat) := ⟨_, rfl⟩
                         replace H : (if x84_4 < (x15_4.length : Int) then (texts_Take.l1 k4 (ji16) t739 y760 (x15_4.set (x84_4 : Int).toNat t757) t728 (t728.length : Int) (wrap64 (x84_4 + 1))) else (none)) = some (r1, r2, r3) := by first | (rw [hy760]; with_reducible exact H) | (have H2_ := (Option.bind_some _ _).symm.trans H; rw [hy760]; with_reducible exact H2_) | (have H2_ := (Option.bind_some _ _).symm.trans H; with_reducible exact H2_) | with_reducible exact H | (rw [hy760]; exact H) | exact H
                         have Ny760 := aM hy760
                         clear hy760
                         by_cases c43 : x84_4 < (x15_4.length : Int)
                         ·
                          rw [if_pos c43] at H
                          have c43b0 : decide (x84_4 < (x15_4.length : Int)) = true := decide_eq_true c43
                          clear c43
                          obtain ⟨y765, hy765⟩ : ∃ y_ : List (List Int), y_ = (x15_4.set (x84_4 : Int).toNat t757) := ⟨_, rfl⟩
                          replace H : (texts_Take.l1 k4 (ji16) t739 y760 y765 t728 (t728.length : Int) (wrap64 (x84_4 + 1))) = some (r1, r2, r3) := by first | (rw [hy765]; with_reducible exact H) | (have H2_ := (Option.bind_some _ _).symm.trans H; rw [hy765]; with_reducible exact H2_) | (have H2_ := (Option.bind_some _ _).symm.trans H; with_reducible exact H2_) | with_reducible exact H | (rw [hy765]; exact H) | exact H
                          have Ny765 := aM hy765
                          clear hy765
                          have H' := aM H
                          clear H
                          have p751 : 0 ≤ (x84_4 : Int) := of_decide_eq_true (by first | (with_reducible assumption) | assumption)
                          have q751 : x84_4 < (t728.length : Int) := of_decide_eq_true (by first | (with_reducible assumption) | assumption)
                          obtain ⟨ad751, e751, hx751_0⟩ := Kd.at_int (Kd.R_reads' HO_82.out).2.2 x84_4 p751 q751
                          cases e751
                          replace p751 := eq_true p751
                          replace q751 := eq_true q751
                          try go_wp2
                          have n0_ := aM (Kd.V_drew HO_14.out)
                          have n1_ := aM (Kd.N_drew HO_15.out)
                          have n2_ := aM (Kd.R_drew HO_82.out)
                          have n3_ := aM (below_drew1 HB.out)
                          clear HO_14
                          clear HO_15
                          clear HO_82
                          clear HB
                          have HO_14 := n0_
                          have HO_15 := n1_
                          have HO_82 := n2_
                          have HB := n3_
                          clear n0_ n1_ n2_ n3_
                          obtain ⟨Ao47, co47, eo47⟩ := Kd.V_slice HO_14.out
                          (first | subst eo47 | (injection eo47 with f1_ f2_ f3_; have f4_ := f1_.symm; have f5_ := f3_.symm; clear f1_ f2_ f3_; subst f4_; subst f5_))
                          have q46 : ((rd t728 x84_4) : Int) ≤ ((x14_4.length : Int) : Int) := of_decide_eq_true (by first | (with_reducible assumption) | assumption)
                          obtain ⟨i046, hi046, _, hsz46, _⟩ := info_parts info5
                          have hroom46 : x14_4.length ≤ co47 := (Kd.V_reads' HO_14.out).2.1
                          have hC46 : Kd.F (Kd.int .u8) _ _ Ao47 x14_4.length x14_4 := (Kd.V_at (base := w.heap.size) HO_14.out).2.2
                          have hcut46 := cut_to (P := Try.prog) 22 5 .u64 Try.underlying22 hi046 Ao47 x14_4.length co47 (rd t728 x84_4) (of_decide_eq_true (by first | (with_reducible assumption) | assumption)) q46 hroom46
                          have hr46 := Kd.F_take (m := ((rd t728 x84_4) : Int).toNat) hC46 (by omega)
                          have hy46 : y752.length = ((rd t728 x84_4) : Int).toNat := (by rw [Ny752.out, List.length_take]; omega)
                          rw [← Ny752.out] at hr46
                          rw [← hy46] at hcut46
                          have HO756 := aM (show Kd.V (Kd.int .u8) 5 _ w.heap.size _ (.slice Ao47 y752.length co47) y752 from Kd.V_mk (by omega) hr46)
                          have HC756 := aM (show y752.length ≤ co47 from by omega)
                          clear hr46 hC46 hroom46 hi046 hsz46
                          have KY46 := aM hy46
                          clear hy46
                          replace q46 := eq_true q46
                          have q48 : ((rd t728 x84_4) : Int) ≤ ((x14_4.length : Int) : Int) := of_decide_eq_true (by first | (with_reducible assumption) | assumption)
                          obtain ⟨i048, hi048, _, hsz48, _⟩ := info_parts info5
                          have hroom48 : x14_4.length ≤ co47 := (Kd.V_reads' HO_14.out).2.1
                          have hC48 : Kd.F (Kd.int .u8) _ _ Ao47 x14_4.length x14_4 := (Kd.V_at (base := w.heap.size) HO_14.out).2.2
                          have q048 : (0 : Int) ≤ ((rd t728 x84_4) : Int) := of_decide_eq_true (by first | (with_reducible assumption) | assumption)
                          have hcut48 := cut_from (P := Try.prog) 22 5 .u64 Try.underlying22 hi048 1 hsz48 Ao47 x14_4.length co47 (rd t728 x84_4) q048 q48
                          have hr48 := Kd.F_cut (m := ((rd t728 x84_4) : Int).toNat) (c := co47) hC48 (by omega) hroom48
                          obtain ⟨A48, hA48⟩ : ∃ A_z, A_z = (if co47 = ((rd t728 x84_4) : Int).toNat then Ao47 else (Ao47 : Option Addr).map (·.add (((rd t728 x84_4) : Int).toNat * 1))) := ⟨_, rfl⟩
                          obtain ⟨c48, hc48⟩ : ∃ c_z, c_z = co47 - ((rd t728 x84_4) : Int).toNat := ⟨_, rfl⟩
                          have hy48 : y760.length = x14_4.length - ((rd t728 x84_4) : Int).toNat := (by rw [Ny760.out, List.length_drop] <;> omega)
                          rw [show (x14_4).drop ((rd t728 x84_4) : Int).toNat = y760 from Ny760.out.symm] at hr48
                          replace hr48 : Kd.F (Kd.int .u8) _ _ A48 y760.length y760 := (by rw [hA48]; exact hr48)
                          rw [← hy48, ← hA48, ← hc48] at hcut48
                          have HO764 := aM (show Kd.V (Kd.int .u8) 5 _ w.heap.size _ (.slice A48 y760.length c48) y760 from Kd.V_mk (by rw [hy48, hc48]; exact Nat.sub_le_sub_right hroom48 _) hr48)
                          have HC764 := aM (show y760.length ≤ c48 from by rw [hy48, hc48]; exact Nat.sub_le_sub_right hroom48 _)
                          clear hr48 hC48 hroom48 hi048 hsz48 hc48
                          have KY48 := aM hy48
                          have KA48 := aM hA48
                          clear hy48 hA48
                          replace q48 := eq_true q48
                          refine start_ (n := 12) (S := fun w' => True) (ds := [10]) b113_ (by kernel_rfl) rfl rfl trivial (fun hHeld => ?_); refine with_tabW texts_Take.tab24 texts_Take.bits24 (fun HT_ HW_ => ?_)
                          generalize wr.drew = w45 at HO_14 HO_15 HO_82 HB HO756 HO764 hHeld ⊢
                          refine pure_ (i := 0) (N := some 89) (v := ?_) (a' := ?_) b114_ rfl rfl (any_of HT_.out (by kernel_rfl)) (fun _ _ _ h => h) (Or.inl ⟨by rfl, ?_⟩) ?_ ?_; rotate_left; (· intro w'; go_simp; with_reducible rfl); rotate_left; (· simp only [xQ, i64_w, i32_w]; rfl)
                          refine pure_ (i := 1) (N := some 90) (v := ?_) (a' := ?_) b115_ rfl rfl (any_of HT_.out (by kernel_rfl)) (fun _ _ _ h => h) (Or.inl ⟨by rfl, ?_⟩) ?_ ?_; rotate_left; (· intro w'; go_simp; with_reducible rfl); rotate_left; (· simp only [xQ, i64_w, i32_w]; rfl)
                          refine pure_ (i := 2) (N := some 91) (v := ?_) (a' := ?_) b116_ rfl rfl (any_of HT_.out (by kernel_rfl)) (fun _ _ _ h => h) (Or.inl ⟨by rfl, ?_⟩) ?_ ?_; rotate_left; (· intro w'; go_simp; with_reducible rfl); rotate_left; (· simp only [xQ, i64_w, i32_w]; rfl)
                          refine pure_ (i := 3) (N := some 92) (v := ?_) (a' := ?_) b117_ rfl rfl (any_of HT_.out (by kernel_rfl)) (fun _ _ _ h => h) (Or.inl ⟨by rfl, ?_⟩) ?_ ?_; rotate_left; (· intro w'; go_simp; with_reducible rfl); rotate_left; (· simp only [xQ, i64_w, i32_w]; rfl)
                          refine pure_ (i := 4) (N := some 93) (v := ?_) (a' := ?_) b118_ rfl rfl (any_of HT_.out (by kernel_rfl)) (fun _ _ _ h => h) (Or.inl ⟨by rfl, ?_⟩) ?_ ?_; rotate_left; (· intro w'; go_simp; with_reducible rfl); rotate_left; (· simp only [xQ, i64_w, i32_w]; rfl)
                          refine pure_ (i := 6) (N := some 95) (v := ?_) (a' := ?_) b119_ rfl rfl (any_of HT_.out (by kernel_rfl)) (fun _ _ _ h => h) (Or.inl ⟨by rfl, ?_⟩) ?_ ?_; rotate_left; (· intro w'; go_simp; with_reducible rfl); rotate_left; (· simp only [xQ, i64_w, i32_w]; rfl)
                          refine pure_ (i := 7) (N := some 96) (v := ?_) (a' := ?_) b120_ rfl rfl (any_of HT_.out (by kernel_rfl)) (fun _ _ _ h => h) (Or.inl ⟨by rfl, ?_⟩) ?_ ?_; rotate_left; (· intro w'; go_simp; with_reducible rfl); rotate_left; (· simp only [xQ, i64_w, i32_w]; rfl)
                          refine pure_ (i := 8) (N := some 97) (v := ?_) (a' := ?_) b121_ rfl rfl (any_of HT_.out (by kernel_rfl)) (fun _ _ _ h => h) (Or.inl ⟨by rfl, ?_⟩) ?_ ?_; rotate_left; (· intro w'; go_simp; with_reducible rfl); rotate_left; (· simp only [xQ, i64_w, i32_w]; rfl)
                          refine one_ (i := 5) (N := some 94) b122_ rfl rfl (one_of HT_.out (by kernel_rfl)) (by decide) (fun K hK => ?_)
                          refine goes_ Try.func21 (by kernel_rfl) rfl #[.slice Ao47 y752.length co47] (by rfl) rfl rfl (by (try simp only [List.map_toArray, List.map_cons, List.map_nil]); first | done | rfl | (simp only [List.length_drop, List.length_take]; rfl)) ?_
                          with_reducible refine (bytes_Clone.calls _ _ y752 t757 _ ?side1 ?side2 A40.out).mono ?_
                          (case side1 => exact xC ((Kd.V_reads' HO756.out).2.2))
                          (case side2 => exact (Kd.V_reads' HO756.out).2.1)
                          rintro e w49 ⟨v758, rfl, ho0, hb⟩
                          refine ⟨_, rfl, ?_⟩
                          have n0_ := aM (Kd.V_elder' (xV HO_14.out) (Kd.R_base ho0) hb)
                          have n1_ := aM (Kd.N_elder' (xN HO_15.out) (Kd.R_base ho0) hb)
                          have n2_ := aM (Kd.R_below (xR HO_82.out) hb)
                          have n3_ := aM (Kd.V_elder' (xV HO756.out) (Kd.R_base ho0) hb)
                          have n4_ := aM (Kd.V_elder' (xV HO764.out) (Kd.R_base ho0) hb)
                          have n5_ := aM (Kd.R_lower (Kd.R_newM (M := fun k_ => (w.heap.size ≤ k_)) ho0 (below_size (xB HB.out)) (fun k_ h_ => h_)) (below_size (xB HB.out)))
                          have n6_ := aM (below_step (xB HB.out) hb)
                          clear HO_14
                          clear HO_15
                          clear HO_82
                          clear HO756
                          clear HO764
                          clear HB
                          have HO_14 := n0_
                          have HO_15 := n1_
                          have HO_82 := n2_
                          have HO756 := n3_
                          have HO764 := n4_
                          have HO759 := n5_
                          have HB := n6_
                          clear n0_ n1_ n2_ n3_ n4_ n5_ n6_
                          obtain ⟨Az_, cz_, ez_⟩ := Kd.R_slice HO759.out
                          subst ez_
                          (try clear hb)
                          (try clear hb2)
                          (try clear hk)
                          (try clear hi)
                          (try clear ho0)
                          have p44 : 0 ≤ (x84_4 : Int) := of_decide_eq_true (by first | (with_reducible assumption) | assumption)
                          have q44 : (x84_4 : Int) < ((x15_4.length : Int) : Int) := of_decide_eq_true (by first | (with_reducible assumption) | assumption)
                          obtain ⟨go44, co44, eo44, gb44, gl44, cl44, HG44⟩ := Kd.N_form HO_15.out (by omega)
                          (first | cases eo44 | (injection eo44 with ea_ en_ ec_; (first | subst ea_ | (injection ea_ with ea_; subst ea_)); subst ec_; clear en_))
                          have GB44 := aM gb44
                          have GG44 := aM HG44
                          clear gb44 gl44 HG44
                          obtain ⟨ce44, hcl44, hM44, hcc44, hfr44⟩ := Kd.N_elem HO_15.out [] (x84_4 : Int) p44 q44
                          obtain ⟨ua44_0, uc44_0, rfl, ul44_0, ge44_0⟩ := Kd.FK_slice_open hM44
                          have hx44_0 := hcc44 0 _ rfl
                          have hf44_0 := hfr44 0
                          (try simp only [show ((Kd.slice 5 (Kd.int .u8))).sz = 1 from rfl, Nat.mul_one, Nat.add_zero] at hx44_0)
                          (try simp only [show ((Kd.slice 5 (Kd.int .u8))).sz = 1 from rfl, Nat.mul_one, Nat.add_zero] at hf44_0)
                          clear hcl44 hcc44 hfr44 hM44
                          replace p44 := eq_true p44
                          replace q44 := eq_true q44
                          have HX50 := aM (show Kd.N (Kd.slice 5 (Kd.int .u8)) 22 _ w.heap.size (fun k_ => (w.heap.size ≤ k_) ∧ some k_ ≠ (.slice (some ad751) t728.length co11 : Value).ownBlock ∧ some k_ ≠ ((.slice Az_ t757.length cz_) : Value).ownBlock) (.slice (some ⟨go44, 0, none⟩) x15_4.length co44) x15_4 from (Kd.N_mono (HO_15.out) (fun k_ hk => ⟨hk.1.1, ⟨hk.1.2, hk.2⟩⟩)))
                          replace HX50 := aM (show Kd.N (Kd.slice 5 (Kd.int .u8)) 22 _ w.heap.size (fun k_ => (w.heap.size ≤ k_) ∧ some k_ ≠ (.slice (some ad751) t728.length co11 : Value).ownBlock) (.slice (some ⟨go44, 0, none⟩) x15_4.length co44) x15_4 from Kd.N_mono HX50.out (fun k_ hk => ⟨hk.1, hk.2.1⟩))
                          obtain ⟨ce50, hcl50, hM50, hcc50, hfr50⟩ := Kd.N_elem HX50.out [] (x84_4 : Int) (of_decide_eq_true (by first | (with_reducible assumption) | assumption)) (by have h_ : (x84_4 : Int) < ((x15_4.length : Int) : Int) := of_decide_eq_true (by first | (with_reducible assumption) | assumption); first | exact h_ | (have e_ := (Kd.N_reads' HO_15.out).1; omega) | simpa using h_)
                          obtain ⟨ua50_0, uc50_0, rfl, ul50_0, ge50_0⟩ := Kd.FK_slice_open hM50
                          have hz_ := (Kd.R_apart' (Kd.R_apart' (HO759.out) (Kd.R_typed HO_82.out) (by decide)) (Kd.N_typed HO_15.out) (by decide))
                          have hz2_ : Kd.R (Kd.int .u8) 5 _ w.heap.size (fun k_ => ((fun k_ => (w.heap.size ≤ k_) ∧ some k_ ≠ (.slice (some ad751) t728.length co11 : Value).ownBlock)) k_ ∧ k_ ≠ go44) (.slice Az_ t757.length cz_) t757 := Kd.R_mono hz_ (fun k_ hk => ⟨⟨hk.1.1.1, hk.1.2⟩, fun e_ => (hk.2) (by rw [e_]; rfl)⟩)
                          have HP50 := (Kd.N_seg HX50.out (x84_4 : Int) (of_decide_eq_true (by first | (with_reducible assumption) | assumption)) (by have h_ : (x84_4 : Int) < ((x15_4.length : Int) : Int) := of_decide_eq_true (by first | (with_reducible assumption) | assumption); first | exact h_ | (have e_ := (Kd.N_reads' HO_15.out).1; omega) | simpa using h_) (seg := [(.slice Az_ t757.length cz_)]) (j := 0) hcl50 hcc50 (show 1 ≤ 1 from by decide) (x' := t757) (FK_of_R hz2_) (fun _ hk => hk)).1
                          (try simp only [show ((Kd.slice 5 (Kd.int .u8))).sz = 1 from rfl, Nat.mul_one, Nat.add_zero] at HP50)
                          rw [← Ny765.out] at HP50
                          have HQ50 := aM HP50
                          clear hcl50 hcc50 hfr50 hM50 HP50
                          refine hK.out _ _ trivial (fun hHeld => ?_)
                          clear hK K
                          refine norm_ (a' := ?_) ?_ ?_
                          rotate_left
                          ·
                           show Act.put _ (some 94) _ = _
                           simp only [xQ, i64_w, i32_w]
                           rfl
                          refine pure_ (i := 9) (N := some 98) (v := ?_) (a' := ?_) b123_ rfl rfl (any_of HT_.out (by kernel_rfl)) (fun _ _ _ h => h) (Or.inl ⟨by rfl, ?_⟩) ?_ ?_; rotate_left; (· intro w'; go_simp; with_reducible rfl); rotate_left; (· simp only [xQ, i64_w, i32_w]; rfl)
                          refine last_ (i := 10) (N := none) b124_ rfl rfl (one_of HT_.out (by kernel_rfl)) (by decide) (fun K hK => ?_)
                          refine skip_ (w1 := ?_) (by rfl) rfl ?_ ?_
                          rotate_left
                          ·
                           go_simp
                           rfl
                          refine hK.out _ _ ?_
                          clear hK K
                          refine pure_ (i := 11) (N := some 14) (v := ?_) (a' := ?_) b125_ rfl rfl (any_of HT_.out (by kernel_rfl)) (fun _ _ _ h => h) (Or.inl ⟨by rfl, ?_⟩) ?_ ?_; rotate_left; (· intro w'; go_simp; with_reducible rfl); rotate_left; (· simp only [xQ, i64_w, i32_w]; rfl)
                          refine done_ (done_of HT_.out (by kernel_rfl)) ?_
                          try go_wp2
                          go_roundg k4
                          case measure => have := HJ4.out; have := HK2.out; have := HJ22.out; have := HK4.out; omega
                          case rel => exact ⟨(y760), (y765), (wrap64 (x84_4 + 1)), (by first | rfl | (simp; done) | (simp [*]; done)), H', ⟨by have := HJ4.out; have := HK2.out; have := HJ22.out; have := HK4.out; omega⟩, ⟨by (with_reducible repeat (first | apply Kd.V_alloc | apply Kd.V_drewN | apply Kd.V_drew)); exact Kd.V_mono (Kd.V_far (p := ⟨go44, (x84_4 : Int).toNat, none⟩) (Kd.V_mono HO764.out (fun k_ hk => (⟨hk, fun e_ => hk.1.2.1 (by rw [e_]; rfl)⟩ : _ ∧ k_ ≠ go44))) (fun _ hk => hk.2) ((.slice Az_ t757.length cz_))) (fun _ hk => ⟨hk.1.1.1, ⟨hk.1.1.2.1, hk.1.1.2.2⟩⟩)⟩, ⟨by (with_reducible repeat (first | apply Kd.N_alloc | apply Kd.N_drewN | apply Kd.N_drew)); exact HQ50.out⟩, ⟨by (with_reducible repeat (first | apply Kd.R_alloc | apply Kd.R_drewN | apply Kd.R_drew)); exact Kd.R_mono (Kd.R_far (p := ⟨go44, (x84_4 : Int).toNat, none⟩) (Kd.R_types HO_82.out GG44.out (by decide)) (fun _ hk => hk.2) ((.slice Az_ t757.length cz_))) (fun _ hk => hk.1)⟩, ⟨by repeat (first | (with_reducible first | exact HB.out | apply below_alloc | apply pw_below_drewN | apply below_drew1 | refine below_set ?_ GB44.out) | exact HB.out)⟩⟩
                         ·
                          rw [if_neg c43] at H
                          exact absurd H (by simp)
                        ·
                         rw [if_neg c39] at H
                         exact absurd H (by simp)
                       ·
                        rw [if_neg c38] at H
                        exact absurd H (by simp)
                      ·
                       rw [if_neg c37] at H
                       exact absurd H (by simp)
                     ·
                      rw [if_neg c36] at H
                      exact absurd H (by simp)
                    ·
                     rw [if_neg c35] at H
                     have c35b0 : decide (x84_4 < (t728.length : Int)) = false := decide_eq_false c35
                     clear c35
                     simp only [Option.some.injEq, Prod.mk.injEq] at H
                     obtain ⟨rfl, rfl, rfl⟩ := H
                     go_wp2
                     go_ret3
                     exact ⟨_, by first | rfl | (simp [errW_none, errW_some] <;> rfl) | (simp only [← hji16]; first | rfl | (simp [errW_none, errW_some] <;> rfl)) | (simp [*, errW_none, errW_some] <;> rfl), by (with_reducible repeat (first | apply Kd.N_alloc | apply Kd.N_drewN | apply Kd.N_drew)); exact Kd.N_mono HO_15.out (fun _ hk => hk.1), xB HB.out⟩
                 ·
                  rw [if_neg c32] at H
                  exact absurd H (by simp)
                ·
                 rw [if_neg c31] at H
                 exact absurd H (by simp)
            ·
             rw [if_neg c21] at H
             exact absurd H (by simp)
           ·
            rw [if_neg c20] at H
            have c20b0 : (t740 == 0) = false := beq_eq_false_iff_ne.mpr c20
            have c20b1 : (t740 != 0) = true := bne_iff_ne.mpr c20
            simp only [Option.some.injEq, Prod.mk.injEq] at H
            obtain ⟨rfl, rfl, rfl⟩ := H
            have q51 : ((ji16) : Int) ≤ ((l0.length : Int) : Int) := of_decide_eq_true (by first | (with_reducible assumption) | assumption)
            obtain ⟨i051, hi051, _, hsz51, _⟩ := info_parts info5
            have hroom51 : l0.length ≤ c0 := HC0.out
            have hC51 : Kd.C (Kd.int .u8) _ A0 l0.length l0 := HR0.out
            have q051 : (0 : Int) ≤ ((ji16) : Int) := of_decide_eq_true (by first | (with_reducible assumption) | assumption)
            have hcut51 := cut_from (P := Try.prog) 22 5 .i64 Try.underlying22 hi051 1 hsz51 A0 l0.length c0 (ji16) q051 q51
            have hr51 := Kd.C_drop (m := ((ji16) : Int).toNat) (c := c0) hC51 (by omega) hroom51
            obtain ⟨A51, hA51⟩ : ∃ A_z, A_z = (if c0 = ((ji16) : Int).toNat then A0 else (A0 : Option Addr).map (·.add (((ji16) : Int).toNat * 1))) := ⟨_, rfl⟩
            obtain ⟨c51, hc51⟩ : ∃ c_z, c_z = c0 - ((ji16) : Int).toNat := ⟨_, rfl⟩
            have hy51 : y734.length = l0.length - ((ji16) : Int).toNat := (by rw [Ny734.out, List.length_drop] <;> omega)
            rw [show (l0).drop ((ji16) : Int).toNat = y734 from Ny734.out.symm] at hr51
            replace hr51 : Kd.C (Kd.int .u8) _ A51 y734.length y734 := (by rw [hA51]; exact hr51)
            rw [← hy51, ← hA51, ← hc51] at hcut51
            have HR737 := aM hr51
            have HC737 := aM (show y734.length ≤ c51 from by rw [hy51, hc51]; exact Nat.sub_le_sub_right hroom51 _)
            clear hr51 hC51 hroom51 hi051 hsz51 hc51
            have KY51 := aM hy51
            have KA51 := aM hA51
            clear hy51 hA51
            replace q51 := eq_true q51
            go_wp2_with (first | ((with_reducible refine gate_callee (f := 32) rfl ?_); refine goesL_ (some 56) rfl rfl Try.func32 (by kernel_rfl) rfl #[.slice A51 y734.length c51, .int .i64 (l0.length : Int)] rfl (by (try simp only [List.map_toArray, List.map_cons, List.map_nil]); first | done | rfl | (simp only [List.length_drop, List.length_take]; rfl)) ?_; (with_reducible refine (num_TakeRow.calls k2 _ _ y734 (l0.length : Int) t738 t739 t740 _ ?side1 ?side2 A19.out).mono ?_); (case side1 => exact xC (Kd.C_below HR737.out HB.out)); (case side2 => exact HC737.out); rintro e w52 ⟨v741, rfl, ho0, hb⟩; refine ⟨_, rfl, ?_⟩; have n0_ := aM (Kd.R_below (xR HO_5.out) hb); have n1_ := aM (Kd.R_below (xR HO_37.out) hb); have n2_ := aM (Kd.R_lower (Kd.R_newM (M := fun k_ => (w.heap.size ≤ k_)) ho0 (below_size (xB HB.out)) (fun k_ h_ => h_)) (below_size (xB HB.out))); have n3_ := aM (below_step (xB HB.out) hb); clear HO_5; clear HO_37; clear HB; have HO_5 := n0_; have HO_37 := n1_; have HO742 := n2_; have HB := n3_; clear n0_ n1_ n2_ n3_; (try clear hb); (try clear hb2); (try clear hk); (try clear hi); (try clear ho0)))
            go_ret3
            exact ⟨_, by first | rfl | (simp [errW_none, errW_some] <;> rfl) | (simp only [← hji16]; first | rfl | (simp [errW_none, errW_some] <;> rfl)) | (simp [*, errW_none, errW_some] <;> rfl), by first | exact Kd.S_nil _ _ _ _ _ | exact Kd.N_nil _ _ _ _ _ | exact Kd.V_nil _ _ _ _ _ | exact Kd.Q_nil _ _ _ _ _ | exact Kd.R_nil _ _ _ _ _, xB HB.out⟩
          ·
           rw [if_neg c18] at H
           exact absurd H (by simp)
         ·
          rw [if_neg c17] at H
          exact absurd H (by simp)
  ·
   rw [if_neg c3] at H
   exact absurd H (by simp)
end Go.Proofs.Ythaifibhflfpkaa.Q
end
section
namespace Go.Proofs.Ythaifibhflfpkaa.Q
open Go.RowKit Go.Proofs.YthaifibhflfpkaaW.PrintWords Go.Proofs.YthaifibhflfpkaaW.PrintLast Go.Proofs.YthaifibhflfpkaaW.PrintMore Go.Proofs.YthaifibhflfpkaaX
namespace Law
def isB (l : List Int) : Prop := ∀ x ∈ l, 0 ≤ x ∧ x < 256
theorem isB_nil : isB [] := fun x hx => by simp at hx
theorem isB_cons {x : Int} {l : List Int} (h : 0 ≤ x ∧ x < 256) (hl : isB l) : isB (x :: l) := fun y hy => by
  rcases List.mem_cons.1 hy with rfl | hy
  · exact h
  · exact hl y hy
theorem isB_app {a b : List Int} (ha : isB a) (hb : isB b) : isB (a ++ b) := fun y hy => by
  rcases List.mem_append.1 hy with h | h
  · exact ha y h
  · exact hb y h
theorem layT_b (n : Nat) : isB (lz_Pack.layT n) := by
  unfold lz_Pack.layT
  refine isB_app (fun x hx => ?_) (isB_cons (by omega) isB_nil)
  rw [List.eq_of_mem_replicate hx]
  decide
theorem litT_b {lits : List Int} (m : Nat) (h : isB lits) : isB (lz_Pack.litT lits m) := by
  unfold lz_Pack.litT
  refine isB_cons (by omega) (isB_app ?_ h)
  split
  · exact layT_b _
  · exact isB_nil
theorem part_b {lits : List Int} (d n : Nat) (h : isB lits) : isB (lz_Pack.part lits d n) := by
  unfold lz_Pack.part
  refine isB_app (litT_b _ h) (isB_app (isB_cons (by omega) (isB_cons (by omega) isB_nil)) ?_)
  split
  · exact layT_b _
  · exact isB_nil
theorem go_b {l : List Int} (hb : isB l) : ∀ f fr i out, isB out → isB (lz_Pack.go l f fr i out)
  | 0, _, _, out, h => by
    rw [lz_Pack.go]
    exact h
  | f + 1, fr, i, out, h => by
    rw [lz_Pack.go]
    split
    · split
      · split
        · exact go_b hb f fr (i + 1) out h
        · exact go_b hb f _ _ _ (isB_app h (part_b _ _ (fun x hx => hb x (List.mem_of_mem_take (List.mem_of_mem_drop hx)))))
      · exact go_b hb f fr (i + 1) out h
    · exact isB_app h (litT_b _ (fun x hx => hb x (List.mem_of_mem_drop hx)))
theorem unpackP {l : List (List Int)} {n : Nat} (h : Lines l n) (hn : n ≤ 65536) : lz_Unpack.f (packT l) (l.flatten.length : Int) = some (l.flatten, 0) := by
  have hall := h.all
  have hpl := packT_len l
  unfold lz_Unpack.f
  rw [if_neg (by omega), if_pos ⟨⟨by omega, by omega⟩, go_b h.flat _ _ _ _ isB_nil⟩]
  have := unpack_go h.flat (by omega) (l.flatten.length + 1) 0 0 ((packT l).length + 1) (Nat.le_refl _) (by omega) (by omega) (by unfold packT; omega)
  rw [List.take_zero] at this
  exact congrArg some this
theorem meaning {l : List (List Int)} {n : Nat} (h : Lines l n) (hn : n ≤ 65536) : Ev (fun k => texts_meaning.f k (kindT l) (loadT l) (l.flatten.length : Int)) (l.flatten, 0) := by
  have hall := h.all
  have hok := train_okL l
  have hcode := codeT_len h
  unfold texts_meaning.f kindT loadT
  by_cases hc : (codeT l).length < (packT l).length
  · rw [if_pos hc, if_pos hc]
    have hcl : (codeT l).length = (tabB (tableT l)).length + (sym_Encode.enc (tableT l) l.flatten.length (strOfNums l.flatten)).length := by
      unfold codeT
      rw [List.length_append]
    refine Ev.neg (by decide) (Ev.pos rfl (Ev.bind (takeTable (tableT l) hok _ (by omega)) (Ev.pos rfl (Ev.pos (Int.natCast_nonneg _) (Ev.pos (by simp only; omega) ?_)))))
    have hdrop : (codeT l).drop (((tabB (tableT l)).length : Int)).toNat = sym_Encode.enc (tableT l) l.flatten.length (strOfNums l.flatten) := by
      rw [Int.toNat_natCast]
      exact List.drop_left' rfl
    refine Ev.get (a := (l.flatten, 0)) ?_ (Ev.now _)
    show sym_Decode.f (tableT l) ((codeT l).drop (((tabB (tableT l)).length : Int)).toNat) (l.flatten.length : Int) = _
    rw [hdrop]
    exact decode (tableT l) hok l.flatten h.flat (by omega)
  · rw [if_neg hc, if_neg hc]
    exact Ev.pos rfl (Ev.get (unpackP h hn) (Ev.now _))
theorem take_out (x8 x13 : Int) (l : List (List Int)) (hl : l.length ≤ 16) (hlong : ∀ b ∈ l, b.length ≤ 65536) : ∀ (r p : List (List Int)), l = p ++ r → Ev (fun k => texts_Take.l1 k x8 x13 r.flatten (p ++ List.replicate r.length []) (ints (lensT l)) (l.length : Int) (p.length : Int)) (l, wrap64 (x8 + x13), 0)
  | [], p, hp => by
    rw [List.append_nil] at hp
    subst hp
    refine Ev.step (fun k => by rw [texts_Take.l1]) ?_
    refine Ev.neg (by omega) ?_
    rw [List.length_nil, List.replicate_zero, List.append_nil]
    exact Ev.now _
  | b :: r, p, hp => by
    have hL : l.length = p.length + (r.length + 1) := by rw [hp]; simp
    have hb := hlong b (by rw [hp]; simp)
    have ih := take_out x8 x13 l hl hlong r (p ++ [b]) (by rw [hp]; simp)
    have hat : (lensT l)[p.length]? = some b.length := by rw [hp]; simp [lensT]
    have hrd := rd_some hat
    have hll : (lensT l).length = l.length := by simp [lensT]
    have HS := Lib.hid (w64_succ p.length (by omega))
    have hset : (p ++ [] :: List.replicate r.length ([] : List Int)).set p.length b = p ++ [b] ++ List.replicate r.length [] := by
      rw [List.set_append_right _ _ (Nat.le_refl _), Nat.sub_self, List.append_assoc]
      rfl
    have hfl : (b :: r).flatten.take b.length = b := by rw [List.flatten_cons]; exact List.take_left' rfl
    have hfd : (b :: r).flatten.drop b.length = r.flatten := by rw [List.flatten_cons]; exact List.drop_left' rfl
    have hfn : (b :: r).flatten.length = b.length + r.flatten.length := by rw [List.flatten_cons, List.length_append]
    refine Ev.step (fun k => by rw [texts_Take.l1, hrd, HS.out, Int.toNat_natCast, Int.toNat_natCast, hfl, hfd]) ?_
    refine Ev.pos (by omega) (Ev.pos (by omega) (Ev.pos (by rw [ints_length]; omega) (Ev.pos (by omega) (Ev.pos (by omega) (Ev.get (a := b) (if_pos (by omega)) (Ev.pos (by simp; omega) ?_))))))
    rw [List.length_cons, List.replicate_succ, hset]
    rw [show ((p ++ [b]).length : Int) = ((p.length + 1 : Nat) : Int) by simp] at ih
    exact ih
theorem take_sum (X : List Int) (x8 : Int) (l : List (List Int)) (hl : l.length ≤ 16) (hlong : ∀ b ∈ l, b.length ≤ 65536) {R : List (List Int) × Int × Int}
    (hk : Ev (fun k => texts_Take.l0 k X (ints (lensT l)) x8 ((l.flatten.length : Nat) : Int) (ints (lensT l)) (l.length : Int) (l.length : Int)) R) :
    ∀ (r p : List (List Int)), l = p ++ r → p.flatten.length ≤ 65536 * p.length → Ev (fun k => texts_Take.l0 k X (ints (lensT l)) x8 ((p.flatten.length : Nat) : Int) (ints (lensT l)) (l.length : Int) (p.length : Int)) R
  | [], p, hp, _ => by
    rw [List.append_nil] at hp
    subst hp
    exact hk
  | b :: r, p, hp, hs => by
    have hL : l.length = p.length + (r.length + 1) := by rw [hp]; simp
    have hb := hlong b (by rw [hp]; simp)
    have hfn : (p ++ [b]).flatten.length = p.flatten.length + b.length := by simp
    have ih := take_sum X x8 l hl hlong hk r (p ++ [b]) (by rw [hp]; simp) (by rw [hfn, List.length_append, List.length_singleton]; omega)
    have hat : (lensT l)[p.length]? = some b.length := by rw [hp]; simp [lensT]
    have hrd := rd_some hat
    have hll : (lensT l).length = l.length := by simp [lensT]
    have HS := Lib.hid (w64_succ p.length (by omega))
    have HW := Lib.hid (w64_nat (b.length : Int) b.length rfl (by omega))
    have HA := Lib.hid (w64_add p.flatten.length b.length (by omega) (by omega))
    refine Ev.step (fun k => by rw [texts_Take.l0, hrd, HW.out, HA.out, HS.out]) ?_
    refine Ev.pos (by omega) (Ev.pos (by omega) (Ev.pos (by rw [ints_length]; omega) (Ev.neg (by omega) ?_)))
    rw [hfn, show ((p ++ [b]).length : Int) = ((p.length + 1 : Nat) : Int) by simp] at ih
    exact ih
theorem takeP {l : List (List Int)} {n : Nat} (h : Lines l n) (hn : n ≤ 65536) (more : List Int) (hm : more.length + 300000 ≤ 140737488340000) : Ev (fun k => texts_Take.f k (granT l ++ more)) (l, ((granT l).length : Int), 0) := by
  have hall := h.all
  have hmost := h.most
  have hone := h.one
  have hgl := granT_len h (by omega)
  have hld := loadT_len h
  obtain ⟨X, hX⟩ : ∃ X, X = granT l ++ more := ⟨_, rfl⟩
  have hXl : X.length = (granT l).length + more.length := by rw [hX, List.length_append]
  obtain ⟨A, hA⟩ : ∃ A, A = numB l.length ++ blockT (lensT l) := ⟨_, rfl⟩
  have hgA : (granT l).length = 1 + A.length + (rowB (loadT l)).length := by
    unfold granT
    rw [List.cons_append, List.length_cons, List.length_append, ← hA]
    omega
  have eX1 : X.drop 1 = numB (lensT l).length ++ (blockT (lensT l) ++ (rowB (loadT l) ++ more)) := by
    rw [hX, h.lens.1]
    unfold granT
    simp
  have eX2 : X.drop (1 + A.length) = rowB (loadT l) ++ more := by
    rw [hX]
    unfold granT
    rw [← hA, List.append_assoc]
    exact List.drop_left' (by simp; omega)
  have e0 : rd X 0 = kindT l := by
    rw [hX]
    rfl
  have hlist := takeList (lensT l) (by rw [h.lens.1]; exact hone) (by rw [h.lens.1]; exact hmost) h.lens.2 (rowB (loadT l) ++ more) (by rw [List.length_append]; omega)
  rw [← eX1, h.lens.1, ← hA] at hlist
  have hrow := takeRow (loadT l) more X.length (by
    have : (loadT l).length ≤ (rowB (loadT l)).length := by unfold rowB; rw [List.length_append]; omega
    omega) (by omega) (by omega)
  have hmean := meaning h hn
  have W1 := Lib.hid (w64_nat (1 + (A.length : Int)) (1 + A.length) (by simp) (by omega))
  have W2 := Lib.hid (w64_nat (((1 + A.length : Nat) : Int) + ((rowB (loadT l)).length : Int)) (granT l).length (by omega) (by omega))
  have hlast := take_out ((1 + A.length : Nat) : Int) ((rowB (loadT l)).length : Int) l hmost h.long l [] rfl
  rw [W2.out] at hlast
  have hj2 : Ev (fun k => texts_Take.j2 k (ints (lensT l)) ((1 + A.length : Nat) : Int) ((rowB (loadT l)).length : Int) l.flatten false) (l, ((granT l).length : Int), 0) := by
    refine Ev.step (fun k => by rw [texts_Take.j2, ints_length, h.lens.1, Int.toNat_natCast]) ?_
    exact Ev.neg (by decide) (Ev.pos (by omega) (Ev.pos (by omega) hlast))
  have hsum : Ev (fun k => texts_Take.l0 k X (ints (lensT l)) ((1 + A.length : Nat) : Int) ((l.flatten.length : Nat) : Int) (ints (lensT l)) (l.length : Int) (l.length : Int)) (l, ((granT l).length : Int), 0) := by
    refine Ev.step (fun k => by rw [texts_Take.l0, Int.toNat_natCast, eX2, e0]) ?_
    refine Ev.neg (by omega) (Ev.pos (by omega) (Ev.pos (by omega) (Ev.bind hrow (Ev.pos rfl (Ev.pos (by omega) (Ev.bind hmean (Ev.pos rfl ?_)))))))
    show Ev (fun k => texts_Take.j2 k (ints (lensT l)) ((1 + A.length : Nat) : Int) ((rowB (loadT l)).length : Int) l.flatten ((l.flatten.length : Int) != (l.flatten.length : Int))) _
    rw [bne_self_eq_false]
    exact hj2
  have hl0 := take_sum X ((1 + A.length : Nat) : Int) l hmost h.long hsum l [] rfl (by simp)
  have hj0 : Ev (fun k => texts_Take.j0 k X (ints (lensT l)) ((A.length : Nat) : Int) false) (l, ((granT l).length : Int), 0) := by
    refine Ev.step (fun k => by rw [texts_Take.j0, W1.out, ints_length, h.lens.1]) ?_
    exact Ev.neg (by decide) hl0
  rw [← hX]
  unfold texts_Take.f
  refine Ev.neg (by omega) (Ev.pos (by omega) (Ev.bind hlist (Ev.pos rfl ?_)))
  show Ev (fun k => texts_Take.j0 k X (ints (lensT l)) ((A.length : Nat) : Int) (((ints (lensT l)).length : Int) == 0)) _
  rw [ints_length, h.lens.1, show ((l.length : Int) == 0) = false by rw [beq_eq_false_iff_ne]; omega]
  exact hj0
end Law
end Go.Proofs.Ythaifibhflfpkaa.Q
end
section
namespace Go.Proofs.Ythaifibhflfpkaa.Q
open Go.RowKit Go.Proofs.YthaifibhflfpkaaW.PrintWords Go.Proofs.YthaifibhflfpkaaW.PrintLast Go.Proofs.YthaifibhflfpkaaW.PrintMore Go.Proofs.YthaifibhflfpkaaX
attribute [local go_sem] max2_int min2_int max_two min_two max_three min_three max_four min_four   -- for this text's walks alone
set_option linter.unusedVariables false
set_option linter.unusedSimpArgs false
def r01_Lists.l0 : Nat → List (List Int) → List (List Int) → Int → Option (Bool)
 | 0, _, _, _ => none
 | k + 1, x0, x1, x5 => if x5 < (x0.length : Int) then (if 0 ≤ x5 then (if x5 < (x1.length : Int) then ((r01_Same.f (rd_L1 x0 x5) (rd_L1 x1 x5)).bind fun t850 => (if t850 = true then (r01_Lists.l0 k x0 x1 (wrap64 (x5 + 1))) else (some false))) else (none)) else (none)) else (some true)
def r01_Lists.f (k : Nat) (l0 : List (List Int)) (l1 : List (List Int)) : Option (Bool) := if (l0.length : Int) = (l1.length : Int) then (r01_Lists.l0 k l0 l1 0) else (some false)
set_option maxHeartbeats 8000000 in
set_option maxRecDepth 100000 in
theorem r01_Lists.calls (k : Nat) (A0 : Option Addr) (c0 : Nat) (l0 : List (List Int)) (A1 : Option Addr) (c1 : Nat) (l1 : List (List Int)) (r : Bool) (w : World) (hr0 : Kd.C (Kd.slice 5 (Kd.int .u8)) w A0 l0.length l0) (hc0 : l0.length ≤ c0) (hr1 : Kd.C (Kd.slice 5 (Kd.int .u8)) w A1 l1.length l1) (hc1 : l1.length ≤ c1) (h : r01_Lists.f k l0 l1 = some r) :
  Calls Try.prog 15 #[.slice A0 l0.length c0, .slice A1 l1.length c1] w fun e w' => e = .returned (.bool r) ∧ Drawn0 w w' := by
 have HR0 := aM hr0
 have HC0 := aM hc0
 clear hr0 hc0
 have HR1 := aM hr1
 have HC1 := aM hc1
 clear hr1 hc1
 have H : (if (l0.length : Int) = (l1.length : Int) then (r01_Lists.l0 k l0 l1 0) else (some false)) = some r := h
 clear h
 by_cases c3 : (l0.length : Int) = (l1.length : Int)
 ·
  rw [if_pos c3] at H
  have c3b0 : ((l0.length : Int) == (l1.length : Int)) = true := beq_iff_eq.mpr c3
  have c3b1 : ((l0.length : Int) != (l1.length : Int)) = false := bne_eq_false_iff_eq.mpr c3
  have c3b2 : (l0.length == l1.length) = true := by first | simpa using c3 | (simp at c3 ⊢; omega)
  clear c3
  have H' := aM H
  clear H
  go_enter Try.func15, Try.ntmps15
  go_wp2
  repeat (go_quiet (fail); try go_wp2)
  go_loopg [5] k (fun kq v5 w' => ∃ (x5_1 : Int), v5 = .int .i64 x5_1 ∧ Aside0 (r01_Lists.l0 kq l0 l1 x5_1 = some r) ∧ Aside0 (kq ≤ k) ∧ Drawn0 w w')
  case atStart => exact ⟨(0), (by first | rfl | (simp; done) | (simp [*]; done)), H', ⟨Nat.le_refl _⟩, by repeat (first | exact Drawn0.refl _ | apply Drawn0.step)⟩
  case round =>
   clear H'
   try clear c1
   try clear p2
   try clear c3
   try clear c3b0
   try clear c3b1
   try clear c3b2
   obtain ⟨x5_1, rfl, HA, HK1, ⟨m1, rfl⟩⟩ := hrel
   cases gk with
   | zero => exact absurd HA.out (by simp [r01_Lists.l0])
   | succ k1 =>
    have H := HA.out
    clear HA
    simp only [r01_Lists.l0] at H
    by_cases c4 : x5_1 < (l0.length : Int)
    ·
     rw [if_pos c4] at H
     have c4b0 : decide (x5_1 < (l0.length : Int)) = true := decide_eq_true c4
     clear c4
     by_cases c5 : 0 ≤ x5_1
     ·
      rw [if_pos c5] at H
      have c5b0 : decide (0 ≤ x5_1) = true := decide_eq_true c5
      clear c5
      by_cases c6 : x5_1 < (l1.length : Int)
      ·
       rw [if_pos c6] at H
       have c6b0 : decide (x5_1 < (l1.length : Int)) = true := decide_eq_true c6
       clear c6
       replace H := Option.bind_eq_some_iff.mp H
       obtain ⟨t850, A70, H⟩ := H
       replace H : (if t850 = true then (r01_Lists.l0 k1 l0 l1 (wrap64 (x5_1 + 1))) else (some false)) = some r := H
       have A7 := aM A70
       clear A70
       by_cases c8 : t850 = true
       ·
        subst c8
        have H1 : (r01_Lists.l0 k1 l0 l1 (wrap64 (x5_1 + 1))) = some r := by rw [if_pos rfl] at H; exact H
        clear H
        have H := H1
        clear H1
        have H' := aM H
        clear H
        have p848 : 0 ≤ (x5_1 : Int) := of_decide_eq_true (by first | (with_reducible assumption) | assumption)
        have q848 : x5_1 < (l0.length : Int) := of_decide_eq_true (by first | (with_reducible assumption) | assumption)
        obtain ⟨ad848, A848_0, c848_0, e848, hx848_0, hl848_0, hi848_0⟩ := at_L1 HR0.out x5_1 p848 q848
        cases e848
        have HR848_0 := aM hi848_0
        have HC848_0 := aM hl848_0
        clear hi848_0 hl848_0
        replace p848 := eq_true p848
        replace q848 := eq_true q848
        have p849 : 0 ≤ (x5_1 : Int) := of_decide_eq_true (by first | (with_reducible assumption) | assumption)
        have q849 : x5_1 < (l1.length : Int) := of_decide_eq_true (by first | (with_reducible assumption) | assumption)
        obtain ⟨ad849, A849_0, c849_0, e849, hx849_0, hl849_0, hi849_0⟩ := at_L1 HR1.out x5_1 p849 q849
        cases e849
        have HR849_0 := aM hi849_0
        have HC849_0 := aM hl849_0
        clear hi849_0 hl849_0
        replace p849 := eq_true p849
        replace q849 := eq_true q849
        go_wp2_with (first | (go_at_call 11; (with_reducible refine (r01_Same.calls _ _ (rd_L1 l0 x5_1) _ _ (rd_L1 l1 x5_1) true _ ?side1 ?side2 ?side3 ?side4 A7.out).mono ?_); (case side1 => exact xC HR848_0.out); (case side2 => exact HC848_0.out); (case side3 => exact xC HR849_0.out); (case side4 => exact HC849_0.out); rintro e w' ⟨rfl, ⟨nd, rfl⟩⟩; (try first | exact ⟨rfl, _, World.drewN_drewN _ _ _⟩ | exact ⟨rfl, _, Eq.trans (World.drewN_drewN _ _ _) (congrArg (World.drewN _) (Nat.add_assoc _ _ _))⟩)))
        repeat (go_quiet (first | (go_at_call 11; (with_reducible refine (r01_Same.calls _ _ (rd_L1 l0 x5_1) _ _ (rd_L1 l1 x5_1) true _ ?side1 ?side2 ?side3 ?side4 A7.out).mono ?_); (case side1 => exact xC HR848_0.out); (case side2 => exact HC848_0.out); (case side3 => exact xC HR849_0.out); (case side4 => exact HC849_0.out); rintro e w' ⟨rfl, ⟨nd, rfl⟩⟩; (try first | exact ⟨rfl, _, World.drewN_drewN _ _ _⟩ | exact ⟨rfl, _, Eq.trans (World.drewN_drewN _ _ _) (congrArg (World.drewN _) (Nat.add_assoc _ _ _))⟩))); try go_wp2_with (first | (go_at_call 11; (with_reducible refine (r01_Same.calls _ _ (rd_L1 l0 x5_1) _ _ (rd_L1 l1 x5_1) true _ ?side1 ?side2 ?side3 ?side4 A7.out).mono ?_); (case side1 => exact xC HR848_0.out); (case side2 => exact HC848_0.out); (case side3 => exact xC HR849_0.out); (case side4 => exact HC849_0.out); rintro e w' ⟨rfl, ⟨nd, rfl⟩⟩; (try first | exact ⟨rfl, _, World.drewN_drewN _ _ _⟩ | exact ⟨rfl, _, Eq.trans (World.drewN_drewN _ _ _) (congrArg (World.drewN _) (Nat.add_assoc _ _ _))⟩))))
        go_roundg k1
        case measure => have := HK1.out; omega
        case rel => exact ⟨(wrap64 (x5_1 + 1)), (by first | rfl | (simp; done) | (simp [*]; done)), H', ⟨by have := HK1.out; omega⟩, by repeat (first | exact Drawn0.refl _ | apply Drawn0.step)⟩
       ·
        replace c8 := Bool.eq_false_iff.mpr c8
        subst c8
        have H1 : (some false) = some r := by rw [if_neg (show ¬ (false = true) by decide)] at H; exact H
        clear H
        have H := H1
        clear H1
        obtain rfl := Option.some.inj H
        have p848 : 0 ≤ (x5_1 : Int) := of_decide_eq_true (by first | (with_reducible assumption) | assumption)
        have q848 : x5_1 < (l0.length : Int) := of_decide_eq_true (by first | (with_reducible assumption) | assumption)
        obtain ⟨ad848, A848_0, c848_0, e848, hx848_0, hl848_0, hi848_0⟩ := at_L1 HR0.out x5_1 p848 q848
        cases e848
        have HR848_0 := aM hi848_0
        have HC848_0 := aM hl848_0
        clear hi848_0 hl848_0
        replace p848 := eq_true p848
        replace q848 := eq_true q848
        have p849 : 0 ≤ (x5_1 : Int) := of_decide_eq_true (by first | (with_reducible assumption) | assumption)
        have q849 : x5_1 < (l1.length : Int) := of_decide_eq_true (by first | (with_reducible assumption) | assumption)
        obtain ⟨ad849, A849_0, c849_0, e849, hx849_0, hl849_0, hi849_0⟩ := at_L1 HR1.out x5_1 p849 q849
        cases e849
        have HR849_0 := aM hi849_0
        have HC849_0 := aM hl849_0
        clear hi849_0 hl849_0
        replace p849 := eq_true p849
        replace q849 := eq_true q849
        go_wp2_with (first | (go_at_call 11; (with_reducible refine (r01_Same.calls _ _ (rd_L1 l0 x5_1) _ _ (rd_L1 l1 x5_1) false _ ?side1 ?side2 ?side3 ?side4 A7.out).mono ?_); (case side1 => exact xC HR848_0.out); (case side2 => exact HC848_0.out); (case side3 => exact xC HR849_0.out); (case side4 => exact HC849_0.out); rintro e w' ⟨rfl, ⟨nd, rfl⟩⟩; (try first | exact ⟨rfl, _, World.drewN_drewN _ _ _⟩ | exact ⟨rfl, _, Eq.trans (World.drewN_drewN _ _ _) (congrArg (World.drewN _) (Nat.add_assoc _ _ _))⟩)))
        repeat (go_quiet (first | (go_at_call 11; (with_reducible refine (r01_Same.calls _ _ (rd_L1 l0 x5_1) _ _ (rd_L1 l1 x5_1) false _ ?side1 ?side2 ?side3 ?side4 A7.out).mono ?_); (case side1 => exact xC HR848_0.out); (case side2 => exact HC848_0.out); (case side3 => exact xC HR849_0.out); (case side4 => exact HC849_0.out); rintro e w' ⟨rfl, ⟨nd, rfl⟩⟩; (try first | exact ⟨rfl, _, World.drewN_drewN _ _ _⟩ | exact ⟨rfl, _, Eq.trans (World.drewN_drewN _ _ _) (congrArg (World.drewN _) (Nat.add_assoc _ _ _))⟩))); try go_wp2_with (first | (go_at_call 11; (with_reducible refine (r01_Same.calls _ _ (rd_L1 l0 x5_1) _ _ (rd_L1 l1 x5_1) false _ ?side1 ?side2 ?side3 ?side4 A7.out).mono ?_); (case side1 => exact xC HR848_0.out); (case side2 => exact HC848_0.out); (case side3 => exact xC HR849_0.out); (case side4 => exact HC849_0.out); rintro e w' ⟨rfl, ⟨nd, rfl⟩⟩; (try first | exact ⟨rfl, _, World.drewN_drewN _ _ _⟩ | exact ⟨rfl, _, Eq.trans (World.drewN_drewN _ _ _) (congrArg (World.drewN _) (Nat.add_assoc _ _ _))⟩))))
        go_ret
        exact ⟨by first | rfl | (simp; done) | (simp [*]; done), by repeat (first | exact Drawn0.refl _ | apply Drawn0.step)⟩
      ·
       rw [if_neg c6] at H
       exact absurd H (by simp)
     ·
      rw [if_neg c5] at H
      exact absurd H (by simp)
    ·
     rw [if_neg c4] at H
     have c4b0 : decide (x5_1 < (l0.length : Int)) = false := decide_eq_false c4
     clear c4
     obtain rfl := Option.some.inj H
     go_wp2
     repeat (go_quiet (fail); try go_wp2)
     go_ret
     exact ⟨by first | rfl | (simp; done) | (simp [*]; done), by repeat (first | exact Drawn0.refl _ | apply Drawn0.step)⟩
 ·
  rw [if_neg c3] at H
  have c3b0 : ((l0.length : Int) == (l1.length : Int)) = false := beq_eq_false_iff_ne.mpr c3
  have c3b1 : ((l0.length : Int) != (l1.length : Int)) = true := bne_iff_ne.mpr c3
  have c3b2 : (l0.length == l1.length) = false := by first | simpa using c3 | (simp at c3 ⊢; omega)
  obtain rfl := Option.some.inj H
  go_enter Try.func15, Try.ntmps15
  go_wp2
  repeat (go_quiet (fail); try go_wp2)
  go_ret
  exact ⟨by first | rfl | (simp; done) | (simp [*]; done), by repeat (first | exact Drawn0.refl _ | apply Drawn0.step)⟩
end Go.Proofs.Ythaifibhflfpkaa.Q
end
