/- A part of the claim's own texts: words, walks and plain laws. -/
import Derived.Test.YthaifibhflfpkaaTb2
import Derived.Test.YthaifibhflfpkaaTb5
import Derived.Test.YthaifibhflfpkaaTb11
import Derived.Test.YthaifibhflfpkaaTb10
import Derived.Test.YthaifibhflfpkaaTb6
namespace Go.Proofs.YthaifibhflfpkaaX
abbrev b70_ : Array Bool := #[false, false, false, false, false, false, false, false]
abbrev b71_ : Array Bool := #[true, false, false, false, false, false, false, false]
abbrev b72_ : Array Bool := #[true, true, false, false, false, false, false, false]
abbrev b73_ : Array Bool := #[true, true, true, false, false, false, false, false]
abbrev b74_ : Array Bool := #[true, true, true, false, true, false, false, false]
abbrev b75_ : Array Bool := #[true, true, true, false, true, true, false, false]
abbrev b76_ : Array Bool := #[true, true, true, true, true, true, false, false]
abbrev b77_ : Array Bool := #[true, true, true, true, true, true, true, false]
abbrev b78_ : Array Bool := #[true, true, true, true, true, true, true, true]
end Go.Proofs.YthaifibhflfpkaaX
section
namespace Go.Proofs.Ythaifibhflfpkaa.Q
open Go.RowKit Go.Proofs.YthaifibhflfpkaaW.PrintWords Go.Proofs.YthaifibhflfpkaaW.PrintLast Go.Proofs.YthaifibhflfpkaaW.PrintMore Go.Proofs.YthaifibhflfpkaaX
attribute [local go_sem] max2_int min2_int max_two min_two max_three min_three max_four min_four   -- for this text's walks alone
set_option linter.unusedVariables false
set_option linter.unusedSimpArgs false
def bytes_Equal.f (l0 : List Int) (l1 : List Int) : Option (Bool) := some ((strOfNums l0).toList == (strOfNums l1).toList)
set_option maxHeartbeats 8000000 in
set_option maxRecDepth 100000 in
theorem bytes_Equal.calls (A0 : Option Addr) (c0 : Nat) (l0 : List Int) (A1 : Option Addr) (c1 : Nat) (l1 : List Int) (r : Bool) (w : World) (hr0 : Kd.C (Kd.int .u8) w A0 l0.length l0) (hc0 : l0.length ≤ c0) (hr1 : Kd.C (Kd.int .u8) w A1 l1.length l1) (hc1 : l1.length ≤ c1) (h : bytes_Equal.f l0 l1 = some r) :
  Calls Try.prog 85 #[.slice A0 l0.length c0, .slice A1 l1.length c1] w fun e w' => e = .returned (.bool r) ∧ Drawn0 w w' := by
 have HR0 := aM hr0
 have HC0 := aM hc0
 clear hr0 hc0
 have HR1 := aM hr1
 have HC1 := aM hc1
 clear hr1 hc1
 have H : (some ((strOfNums l0).toList == (strOfNums l1).toList)) = some r := h
 clear h
 obtain rfl := Option.some.inj H
 have hcv3 := Kd.C_string (P := Try.prog) (A := A0) (c := c0) Try.underlying22 Try.underlying5 Try.underlying9 HR0.out
 have hcv4 := fun nq_ : Nat => Kd.C_string (P := Try.prog) (A := A0) (c := c0) Try.underlying22 Try.underlying5 Try.underlying9 (Kd.C_drewN (show Kd.C (Kd.int .u8) _ A0 _ _ from HR0.out) nq_)
 have hcv5 := Kd.C_string (P := Try.prog) (A := A1) (c := c1) Try.underlying22 Try.underlying5 Try.underlying9 HR1.out
 have hcv6 := fun nq_ : Nat => Kd.C_string (P := Try.prog) (A := A1) (c := c1) Try.underlying22 Try.underlying5 Try.underlying9 (Kd.C_drewN (show Kd.C (Kd.int .u8) _ A1 _ _ from HR1.out) nq_)
 go_enter Try.func85, Try.ntmps85
 go_wp2
 go_ret
 exact ⟨by first | rfl | (simp; done) | (simp [*]; done), by repeat (first | exact Drawn0.refl _ | apply Drawn0.step)⟩
def pfor_TakeBlock.f (k : Nat) (l0 : List Int) : Option (List Int × Int × Int) := (pfor_read.f k l0).bind fun bt652 => (if bt652.2.2 = true then ((pfor_PutBlock.f k ([] : List Int) bt652.1).bind fun bt657 => (if bt657.2 = 0 then (if 0 ≤ bt652.2.1 then (if bt652.2.1 ≤ (l0.length : Int) then ((bytes_Equal.f bt657.1 (l0.take (bt652.2.1 : Int).toNat)).bind fun t665 => (if t665 = true then (some (bt652.1, bt652.2.1, 0)) else (some (([] : List Int), 0, 2)))) else (none)) else (none)) else (some (([] : List Int), 0, 2)))) else (some (([] : List Int), 0, 2)))
set_option maxHeartbeats 8000000 in
set_option maxRecDepth 100000 in
theorem pfor_TakeBlock.calls (k : Nat) (A0 : Option Addr) (c0 : Nat) (l0 : List Int) (r1 : List Int) (r2 : Int) (r3 : Int) (w : World) (hr0 : Kd.C (Kd.int .u8) w A0 l0.length l0) (hc0 : l0.length ≤ c0) (h : pfor_TakeBlock.f k l0 = some (r1, r2, r3)) :
  Calls Try.prog 59 #[.slice A0 l0.length c0] w fun e w' => ∃ v0_ : Value, e = .returned (.tuple #[v0_, .int .i64 r2, .int .i64 r3]) ∧ Kd.R (Kd.int .u64) 40 w' w.heap.size (fun _ => True) v0_ r1 ∧ Below w.heap.size w w' := by
 have HR0 := aM hr0
 have HC0 := aM hc0
 clear hr0 hc0
 have HB := aM (Below.refl w.heap.size w)
 have H : ((pfor_read.f k l0).bind fun bt652 => (if bt652.2.2 = true then ((pfor_PutBlock.f k ([] : List Int) bt652.1).bind fun bt657 => (if bt657.2 = 0 then (if 0 ≤ bt652.2.1 then (if bt652.2.1 ≤ (l0.length : Int) then ((bytes_Equal.f bt657.1 (l0.take (bt652.2.1 : Int).toNat)).bind fun t665 => (if t665 = true then (some (bt652.1, bt652.2.1, 0)) else (some (([] : List Int), 0, 2)))) else (none)) else (none)) else (some (([] : List Int), 0, 2)))) else (some (([] : List Int), 0, 2)))) = some (r1, r2, r3) := h
 clear h
 replace H := Option.bind_eq_some_iff.mp H
 obtain ⟨⟨t652, t653, t654⟩, A20, H⟩ := H
 replace H : (if t654 = true then ((pfor_PutBlock.f k ([] : List Int) t652).bind fun bt657 => (if bt657.2 = 0 then (if 0 ≤ t653 then (if t653 ≤ (l0.length : Int) then ((bytes_Equal.f bt657.1 (l0.take (t653 : Int).toNat)).bind fun t665 => (if t665 = true then (some (t652, t653, 0)) else (some (([] : List Int), 0, 2)))) else (none)) else (none)) else (some (([] : List Int), 0, 2)))) else (some (([] : List Int), 0, 2))) = some (r1, r2, r3) := H
 have A2 := aM A20
 clear A20
 by_cases c3 : t654 = true
 ·
  subst c3
  have H1 : ((pfor_PutBlock.f k ([] : List Int) t652).bind fun bt657 => (if bt657.2 = 0 then (if 0 ≤ t653 then (if t653 ≤ (l0.length : Int) then ((bytes_Equal.f bt657.1 (l0.take (t653 : Int).toNat)).bind fun t665 => (if t665 = true then (some (t652, t653, 0)) else (some (([] : List Int), 0, 2)))) else (none)) else (none)) else (some (([] : List Int), 0, 2)))) = some (r1, r2, r3) := by rw [if_pos rfl] at H; exact H
  clear H
  have H := H1
  clear H1
  replace H := Option.bind_eq_some_iff.mp H
  obtain ⟨⟨t657, t658⟩, A40, H⟩ := H
  replace H : (if t658 = 0 then (if 0 ≤ t653 then (if t653 ≤ (l0.length : Int) then ((bytes_Equal.f t657 (l0.take (t653 : Int).toNat)).bind fun t665 => (if t665 = true then (some (t652, t653, 0)) else (some (([] : List Int), 0, 2)))) else (none)) else (none)) else (some (([] : List Int), 0, 2))) = some (r1, r2, r3) := H
  have A4 := aM A40
  clear A40
  by_cases c5 : t658 = 0
  ·
   rw [if_pos c5] at H
   have c5b0 : (t658 == 0) = true := beq_iff_eq.mpr c5
   have c5b1 : (t658 != 0) = false := bne_eq_false_iff_eq.mpr c5
   clear c5
   by_cases c6 : 0 ≤ t653
   ·
    rw [if_pos c6] at H
    have c6b0 := eq_true c6
    have c6b1 : decide (0 ≤ t653) = true := decide_eq_true c6
    clear c6
    by_cases c7 : t653 ≤ (l0.length : Int)
    ·
     rw [if_pos c7] at H
     have c7b0 := eq_true c7
     have c7b1 : decide (t653 ≤ (l0.length : Int)) = true := decide_eq_true c7
     clear c7
     obtain ⟨y661, hy661⟩ : ∃ y_ : List Int, y_ = (l0.take (t653 : Int).toNat) := ⟨_, rfl⟩
     replace H : ((bytes_Equal.f t657 y661).bind fun t665 => (if t665 = true then (some (t652, t653, 0)) else (some (([] : List Int), 0, 2)))) = some (r1, r2, r3) := by first | (rw [hy661]; with_reducible exact H) | (have H2_ := (Option.bind_some _ _).symm.trans H; rw [hy661]; with_reducible exact H2_) | (have H2_ := (Option.bind_some _ _).symm.trans H; with_reducible exact H2_) | with_reducible exact H | (rw [hy661]; exact H) | exact H
     have Ny661 := aM hy661
     clear hy661
     replace H := Option.bind_eq_some_iff.mp H
     obtain ⟨t665, A80, H⟩ := H
     replace H : (if t665 = true then (some (t652, t653, 0)) else (some (([] : List Int), 0, 2))) = some (r1, r2, r3) := H
     have A8 := aM A80
     clear A80
     by_cases c9 : t665 = true
     ·
      subst c9
      have H1 : (some (t652, t653, 0)) = some (r1, r2, r3) := by rw [if_pos rfl] at H; exact H
      clear H
      have H := H1
      clear H1
      simp only [Option.some.injEq, Prod.mk.injEq] at H
      obtain ⟨rfl, rfl, rfl⟩ := H
      go_enter Try.func59, Try.ntmps59
      go_wp2_with (first | ((with_reducible refine gate_callee (f := 84) rfl ?_); refine goesL_ (some 12) rfl rfl Try.func84 (by kernel_rfl) rfl #[.slice A0 l0.length c0] rfl (by (try simp only [List.map_toArray, List.map_cons, List.map_nil]); first | done | rfl | (simp only [List.length_drop, List.length_take]; rfl)) ?_; (with_reducible refine (pfor_read.calls k _ _ l0 t652 t653 true _ ?side1 ?side2 A2.out).mono ?_); (case side1 => exact xC HR0.out); (case side2 => exact HC0.out); rintro e w10 ⟨v655, rfl, ho0, hb⟩; refine ⟨_, rfl, ?_⟩; have n0_ := aM (Kd.R_lower ho0 (below_size (xB HB.out))); have n1_ := aM (below_step (xB HB.out) hb); clear HB; have HO656 := n0_; have HB := n1_; clear n0_ n1_; (try clear hb); (try clear hb2); (try clear hk); (try clear hi); (try clear ho0); obtain ⟨Ao11, co11, eo11⟩ := Kd.R_slice HO656.out; subst eo11) | ((with_reducible refine gate_callee (f := 49) rfl ?_); refine goesL_ (some 20) rfl rfl Try.func49 (by kernel_rfl) rfl #[.slice none 0 0, .slice Ao11 t652.length co11] rfl (by (try simp only [List.map_toArray, List.map_cons, List.map_nil]); first | done | rfl | (simp only [List.length_drop, List.length_take]; rfl)) ?_; (refine (pfor_PutBlock.calls k _ _ ([] : List Int) _ _ t652 t657 t658 _ ?side1 ?side2 ?side3 ?side4 A4.out).mono ?_); (case side1 => exact Kd.C_nil _ _); (case side2 => exact Nat.le_refl _); (case side3 => exact xC ((Kd.R_reads' HO656.out).2.2)); (case side4 => exact (Kd.R_reads' HO656.out).2.1); rintro e w12 ⟨v659, rfl, ho0, hb⟩; refine ⟨_, rfl, ?_⟩; have n0_ := aM (Kd.R_below (xR HO656.out) hb); have n1_ := aM (Kd.R_lower ho0 (below_size (xB HB.out))); have n2_ := aM (below_step (xB HB.out) hb); clear HO656; clear HB; have HO656 := n0_; have HO660 := n1_; have HB := n2_; clear n0_ n1_ n2_; (try clear hb); (try clear hb2); (try clear hk); (try clear hi); (try clear ho0); have q13 : (t653 : Int) ≤ ((l0.length : Int) : Int) := of_decide_eq_true (by first | (with_reducible assumption) | assumption); obtain ⟨i013, hi013, _, hsz13, _⟩ := info_parts info5; have hroom13 : l0.length ≤ c0 := HC0.out; have hC13 : Kd.C (Kd.int .u8) _ A0 l0.length l0 := HR0.out; have hcut13 := cut_to (P := Try.prog) 22 5 .i64 Try.underlying22 hi013 A0 l0.length c0 t653 (of_decide_eq_true (by first | (with_reducible assumption) | assumption)) q13 hroom13; have hr13 := Kd.C_take (m := (t653 : Int).toNat) hC13 (by omega); have hy13 : y661.length = (t653 : Int).toNat := (by rw [Ny661.out, List.length_take]; omega); rw [← Ny661.out] at hr13; rw [← hy13] at hcut13; have HR664 := aM hr13; have HC664 := aM (show y661.length ≤ c0 from by omega); clear hr13 hC13 hroom13 hi013 hsz13; have KY13 := aM hy13; clear hy13; replace q13 := eq_true q13; obtain ⟨Ao14, co14, eo14⟩ := Kd.R_slice HO660.out; subst eo14) | (go_at_call 85; (with_reducible refine (bytes_Equal.calls _ _ t657 _ _ y661 true _ ?side1 ?side2 ?side3 ?side4 A8.out).mono ?_); (case side1 => exact xC ((Kd.R_reads' HO660.out).2.2)); (case side2 => exact (Kd.R_reads' HO660.out).2.1); (case side3 => exact xC (Kd.C_below HR664.out HB.out)); (case side4 => exact HC664.out); rintro e w' ⟨rfl, ⟨nd, rfl⟩⟩))
      go_ret3
      exact ⟨_, by first | rfl | (simp [errW_none, errW_some] <;> rfl) | (simp [*, errW_none, errW_some] <;> rfl), by (with_reducible repeat (first | apply Kd.R_alloc | apply Kd.R_drewN | apply Kd.R_drew)); exact HO656.out, xB HB.out⟩
     ·
      replace c9 := Bool.eq_false_iff.mpr c9
      subst c9
      have H1 : (some (([] : List Int), 0, 2)) = some (r1, r2, r3) := by rw [if_neg (show ¬ (false = true) by decide)] at H; exact H
      clear H
      have H := H1
      clear H1
      simp only [Option.some.injEq, Prod.mk.injEq] at H
      obtain ⟨rfl, rfl, rfl⟩ := H
      go_enter Try.func59, Try.ntmps59
      go_wp2_with (first | ((with_reducible refine gate_callee (f := 84) rfl ?_); refine goesL_ (some 12) rfl rfl Try.func84 (by kernel_rfl) rfl #[.slice A0 l0.length c0] rfl (by (try simp only [List.map_toArray, List.map_cons, List.map_nil]); first | done | rfl | (simp only [List.length_drop, List.length_take]; rfl)) ?_; (with_reducible refine (pfor_read.calls k _ _ l0 t652 t653 true _ ?side1 ?side2 A2.out).mono ?_); (case side1 => exact xC HR0.out); (case side2 => exact HC0.out); rintro e w15 ⟨v655, rfl, ho0, hb⟩; refine ⟨_, rfl, ?_⟩; have n0_ := aM (Kd.R_lower ho0 (below_size (xB HB.out))); have n1_ := aM (below_step (xB HB.out) hb); clear HB; have HO656 := n0_; have HB := n1_; clear n0_ n1_; (try clear hb); (try clear hb2); (try clear hk); (try clear hi); (try clear ho0); obtain ⟨Ao16, co16, eo16⟩ := Kd.R_slice HO656.out; subst eo16) | ((with_reducible refine gate_callee (f := 49) rfl ?_); refine goesL_ (some 20) rfl rfl Try.func49 (by kernel_rfl) rfl #[.slice none 0 0, .slice Ao16 t652.length co16] rfl (by (try simp only [List.map_toArray, List.map_cons, List.map_nil]); first | done | rfl | (simp only [List.length_drop, List.length_take]; rfl)) ?_; (refine (pfor_PutBlock.calls k _ _ ([] : List Int) _ _ t652 t657 t658 _ ?side1 ?side2 ?side3 ?side4 A4.out).mono ?_); (case side1 => exact Kd.C_nil _ _); (case side2 => exact Nat.le_refl _); (case side3 => exact xC ((Kd.R_reads' HO656.out).2.2)); (case side4 => exact (Kd.R_reads' HO656.out).2.1); rintro e w17 ⟨v659, rfl, ho0, hb⟩; refine ⟨_, rfl, ?_⟩; have n0_ := aM (Kd.R_below (xR HO656.out) hb); have n1_ := aM (Kd.R_lower ho0 (below_size (xB HB.out))); have n2_ := aM (below_step (xB HB.out) hb); clear HO656; clear HB; have HO656 := n0_; have HO660 := n1_; have HB := n2_; clear n0_ n1_ n2_; (try clear hb); (try clear hb2); (try clear hk); (try clear hi); (try clear ho0); have q18 : (t653 : Int) ≤ ((l0.length : Int) : Int) := of_decide_eq_true (by first | (with_reducible assumption) | assumption); obtain ⟨i018, hi018, _, hsz18, _⟩ := info_parts info5; have hroom18 : l0.length ≤ c0 := HC0.out; have hC18 : Kd.C (Kd.int .u8) _ A0 l0.length l0 := HR0.out; have hcut18 := cut_to (P := Try.prog) 22 5 .i64 Try.underlying22 hi018 A0 l0.length c0 t653 (of_decide_eq_true (by first | (with_reducible assumption) | assumption)) q18 hroom18; have hr18 := Kd.C_take (m := (t653 : Int).toNat) hC18 (by omega); have hy18 : y661.length = (t653 : Int).toNat := (by rw [Ny661.out, List.length_take]; omega); rw [← Ny661.out] at hr18; rw [← hy18] at hcut18; have HR664 := aM hr18; have HC664 := aM (show y661.length ≤ c0 from by omega); clear hr18 hC18 hroom18 hi018 hsz18; have KY18 := aM hy18; clear hy18; replace q18 := eq_true q18; obtain ⟨Ao19, co19, eo19⟩ := Kd.R_slice HO660.out; subst eo19) | (go_at_call 85; (with_reducible refine (bytes_Equal.calls _ _ t657 _ _ y661 false _ ?side1 ?side2 ?side3 ?side4 A8.out).mono ?_); (case side1 => exact xC ((Kd.R_reads' HO660.out).2.2)); (case side2 => exact (Kd.R_reads' HO660.out).2.1); (case side3 => exact xC (Kd.C_below HR664.out HB.out)); (case side4 => exact HC664.out); rintro e w' ⟨rfl, ⟨nd, rfl⟩⟩))
      go_ret3
      exact ⟨_, by first | rfl | (simp [errW_none, errW_some] <;> rfl) | (simp [*, errW_none, errW_some] <;> rfl), by first | exact Kd.R_nil _ _ _ _ _ | exact Kd.N_nil _ _ _ _ _ | exact Kd.V_nil _ _ _ _ _ | exact Kd.Q_nil _ _ _ _ _ | exact Kd.S_nil _ _ _ _ _, xB HB.out⟩
    ·
     rw [if_neg c7] at H
     exact absurd H (by simp)
   ·
    rw [if_neg c6] at H
    exact absurd H (by simp)
  ·
   rw [if_neg c5] at H
   have c5b0 : (t658 == 0) = false := beq_eq_false_iff_ne.mpr c5
   have c5b1 : (t658 != 0) = true := bne_iff_ne.mpr c5
   simp only [Option.some.injEq, Prod.mk.injEq] at H
   obtain ⟨rfl, rfl, rfl⟩ := H
   go_enter Try.func59, Try.ntmps59
   go_wp2_with (first | ((with_reducible refine gate_callee (f := 84) rfl ?_); refine goesL_ (some 12) rfl rfl Try.func84 (by kernel_rfl) rfl #[.slice A0 l0.length c0] rfl (by (try simp only [List.map_toArray, List.map_cons, List.map_nil]); first | done | rfl | (simp only [List.length_drop, List.length_take]; rfl)) ?_; (with_reducible refine (pfor_read.calls k _ _ l0 t652 t653 true _ ?side1 ?side2 A2.out).mono ?_); (case side1 => exact xC HR0.out); (case side2 => exact HC0.out); rintro e w20 ⟨v655, rfl, ho0, hb⟩; refine ⟨_, rfl, ?_⟩; have n0_ := aM (Kd.R_lower ho0 (below_size (xB HB.out))); have n1_ := aM (below_step (xB HB.out) hb); clear HB; have HO656 := n0_; have HB := n1_; clear n0_ n1_; (try clear hb); (try clear hb2); (try clear hk); (try clear hi); (try clear ho0); obtain ⟨Ao21, co21, eo21⟩ := Kd.R_slice HO656.out; subst eo21) | ((with_reducible refine gate_callee (f := 49) rfl ?_); refine goesL_ (some 20) rfl rfl Try.func49 (by kernel_rfl) rfl #[.slice none 0 0, .slice Ao21 t652.length co21] rfl (by (try simp only [List.map_toArray, List.map_cons, List.map_nil]); first | done | rfl | (simp only [List.length_drop, List.length_take]; rfl)) ?_; (refine (pfor_PutBlock.calls k _ _ ([] : List Int) _ _ t652 t657 t658 _ ?side1 ?side2 ?side3 ?side4 A4.out).mono ?_); (case side1 => exact Kd.C_nil _ _); (case side2 => exact Nat.le_refl _); (case side3 => exact xC ((Kd.R_reads' HO656.out).2.2)); (case side4 => exact (Kd.R_reads' HO656.out).2.1); rintro e w22 ⟨v659, rfl, ho0, hb⟩; refine ⟨_, rfl, ?_⟩; have n0_ := aM (Kd.R_below (xR HO656.out) hb); have n1_ := aM (Kd.R_lower ho0 (below_size (xB HB.out))); have n2_ := aM (below_step (xB HB.out) hb); clear HO656; clear HB; have HO656 := n0_; have HO660 := n1_; have HB := n2_; clear n0_ n1_ n2_; (try clear hb); (try clear hb2); (try clear hk); (try clear hi); (try clear ho0)))
   go_ret3
   exact ⟨_, by first | rfl | (simp [errW_none, errW_some] <;> rfl) | (simp [*, errW_none, errW_some] <;> rfl), by first | exact Kd.R_nil _ _ _ _ _ | exact Kd.N_nil _ _ _ _ _ | exact Kd.V_nil _ _ _ _ _ | exact Kd.Q_nil _ _ _ _ _ | exact Kd.S_nil _ _ _ _ _, xB HB.out⟩
 ·
  replace c3 := Bool.eq_false_iff.mpr c3
  subst c3
  have H1 : (some (([] : List Int), 0, 2)) = some (r1, r2, r3) := by rw [if_neg (show ¬ (false = true) by decide)] at H; exact H
  clear H
  have H := H1
  clear H1
  simp only [Option.some.injEq, Prod.mk.injEq] at H
  obtain ⟨rfl, rfl, rfl⟩ := H
  go_enter Try.func59, Try.ntmps59
  go_wp2_with (first | ((with_reducible refine gate_callee (f := 84) rfl ?_); refine goesL_ (some 12) rfl rfl Try.func84 (by kernel_rfl) rfl #[.slice A0 l0.length c0] rfl (by (try simp only [List.map_toArray, List.map_cons, List.map_nil]); first | done | rfl | (simp only [List.length_drop, List.length_take]; rfl)) ?_; (with_reducible refine (pfor_read.calls k _ _ l0 t652 t653 false _ ?side1 ?side2 A2.out).mono ?_); (case side1 => exact xC HR0.out); (case side2 => exact HC0.out); rintro e w23 ⟨v655, rfl, ho0, hb⟩; refine ⟨_, rfl, ?_⟩; have n0_ := aM (Kd.R_lower ho0 (below_size (xB HB.out))); have n1_ := aM (below_step (xB HB.out) hb); clear HB; have HO656 := n0_; have HB := n1_; clear n0_ n1_; (try clear hb); (try clear hb2); (try clear hk); (try clear hi); (try clear ho0)))
  go_ret3
  exact ⟨_, by first | rfl | (simp [errW_none, errW_some] <;> rfl) | (simp [*, errW_none, errW_some] <;> rfl), by first | exact Kd.R_nil _ _ _ _ _ | exact Kd.N_nil _ _ _ _ _ | exact Kd.V_nil _ _ _ _ _ | exact Kd.Q_nil _ _ _ _ _ | exact Kd.S_nil _ _ _ _ _, xB HB.out⟩
def pfor_TakeList.l0 : Nat → List Int → Int → List Int → Int → Option (List Int × Int × Int)
 | 0, _, _, _, _ => none
 | k + 1, x0, x8, x10, x11 => if x11 > 0 then (if 0 ≤ x8 then (if x8 ≤ (x0.length : Int) then ((pfor_TakeBlock.f k (x0.drop (x8 : Int).toNat)).bind fun bt673 => (if bt673.2.2 = 0 then (if (bt673.1.length : Int) = (mn x11 32) then (if x10.length + bt673.1.length < 17592186044416 then (pfor_TakeList.l0 k x0 (wrap64 (x8 + bt673.2.1)) (x10 ++ bt673.1) (wrap64 (x11 - (bt673.1.length : Int)))) else (none)) else (some (([] : List Int), 0, 2))) else (some (([] : List Int), 0, 2)))) else (none)) else (none)) else (some (x10, x8, 0))
def pfor_TakeList.f (k : Nat) (l0 : List Int) (a1 : Int) : Option (List Int × Int × Int) := if a1 < 0 then (some (([] : List Int), 0, 1)) else ((num_Take.f k l0).bind fun bt666 => (if bt666.2.2 = 0 then (if bt666.1 > (IntKind.u64.wrap (a1)) then (some (([] : List Int), 0, 5)) else (pfor_TakeList.l0 k l0 bt666.2.1 ([] : List Int) (wrap64 (bt666.1)))) else (some (([] : List Int), 0, 2))))
set_option maxHeartbeats 8000000 in
set_option maxRecDepth 100000 in
theorem pfor_TakeList.calls (k : Nat) (A0 : Option Addr) (c0 : Nat) (l0 : List Int) (a1 : Int) (r1 : List Int) (r2 : Int) (r3 : Int) (w : World) (hr0 : Kd.C (Kd.int .u8) w A0 l0.length l0) (hc0 : l0.length ≤ c0) (h : pfor_TakeList.f k l0 a1 = some (r1, r2, r3)) :
  Calls Try.prog 31 #[.slice A0 l0.length c0, .int .i64 a1] w fun e w' => ∃ v0_ : Value, e = .returned (.tuple #[v0_, .int .i64 r2, .int .i64 r3]) ∧ Kd.R (Kd.int .u64) 40 w' w.heap.size (fun _ => True) v0_ r1 ∧ Below w.heap.size w w' := by
 have HR0 := aM hr0
 have HC0 := aM hc0
 clear hr0 hc0
 have HB := aM (Below.refl w.heap.size w)
 have H : (if a1 < 0 then (some (([] : List Int), 0, 1)) else ((num_Take.f k l0).bind fun bt666 => (if bt666.2.2 = 0 then (if bt666.1 > (IntKind.u64.wrap (a1)) then (some (([] : List Int), 0, 5)) else (pfor_TakeList.l0 k l0 bt666.2.1 ([] : List Int) (wrap64 (bt666.1)))) else (some (([] : List Int), 0, 2))))) = some (r1, r2, r3) := h
 clear h
 by_cases c3 : a1 < 0
 ·
  rw [if_pos c3] at H
  have c3b0 : decide (a1 < 0) = true := decide_eq_true c3
  clear c3
  simp only [Option.some.injEq, Prod.mk.injEq] at H
  obtain ⟨rfl, rfl, rfl⟩ := H
  go_enter Try.func31, Try.ntmps31
  go_wp2
  go_ret3
  exact ⟨_, by first | rfl | (simp [errW_none, errW_some] <;> rfl) | (simp [*, errW_none, errW_some] <;> rfl), by first | exact Kd.R_nil _ _ _ _ _ | exact Kd.N_nil _ _ _ _ _ | exact Kd.V_nil _ _ _ _ _ | exact Kd.Q_nil _ _ _ _ _ | exact Kd.S_nil _ _ _ _ _, xB HB.out⟩
 ·
  rw [if_neg c3] at H
  have c3b0 : decide (a1 < 0) = false := decide_eq_false c3
  clear c3
  replace H := Option.bind_eq_some_iff.mp H
  obtain ⟨⟨t666, t667, t668⟩, A40, H⟩ := H
  replace H : (if t668 = 0 then (if t666 > (IntKind.u64.wrap (a1)) then (some (([] : List Int), 0, 5)) else (pfor_TakeList.l0 k l0 t667 ([] : List Int) (wrap64 (t666)))) else (some (([] : List Int), 0, 2))) = some (r1, r2, r3) := H
  have A4 := aM A40
  clear A40
  by_cases c5 : t668 = 0
  ·
   rw [if_pos c5] at H
   have c5b0 : (t668 == 0) = true := beq_iff_eq.mpr c5
   have c5b1 : (t668 != 0) = false := bne_eq_false_iff_eq.mpr c5
   clear c5
   by_cases c6 : t666 > (IntKind.u64.wrap (a1))
   ·
    rw [if_pos c6] at H
    have c6b0 : decide ((IntKind.u64.wrap (a1)) < t666) = true := decide_eq_true c6
    clear c6
    simp only [Option.some.injEq, Prod.mk.injEq] at H
    obtain ⟨rfl, rfl, rfl⟩ := H
    go_enter Try.func31, Try.ntmps31
    go_wp2_with (first | ((with_reducible refine gate_callee (f := 58) rfl ?_); refine goesL_ (some 19) rfl rfl Try.func58 (by kernel_rfl) rfl #[.slice A0 l0.length c0] rfl (by (try simp only [List.map_toArray, List.map_cons, List.map_nil]); first | done | rfl | (simp only [List.length_drop, List.length_take]; rfl)) ?_; (with_reducible refine (num_Take.calls k _ _ l0 t666 t667 t668 _ ?side1 ?side2 A4.out).mono ?_); (case side1 => exact xC HR0.out); (case side2 => exact HC0.out); rintro e w' ⟨rfl, ⟨nd, rfl⟩⟩; refine ⟨_, rfl, ?_⟩))
    go_ret3
    exact ⟨_, by first | rfl | (simp [errW_none, errW_some] <;> rfl) | (simp [*, errW_none, errW_some] <;> rfl), by first | exact Kd.R_nil _ _ _ _ _ | exact Kd.N_nil _ _ _ _ _ | exact Kd.V_nil _ _ _ _ _ | exact Kd.Q_nil _ _ _ _ _ | exact Kd.S_nil _ _ _ _ _, xB HB.out⟩
   ·
    rw [if_neg c6] at H
    have c6b0 : decide ((IntKind.u64.wrap (a1)) < t666) = false := decide_eq_false c6
    clear c6
    have H' := aM H
    clear H
    go_enter Try.func31, Try.ntmps31
    go_wp2_with (first | ((with_reducible refine gate_callee (f := 58) rfl ?_); refine goesL_ (some 19) rfl rfl Try.func58 (by kernel_rfl) rfl #[.slice A0 l0.length c0] rfl (by (try simp only [List.map_toArray, List.map_cons, List.map_nil]); first | done | rfl | (simp only [List.length_drop, List.length_take]; rfl)) ?_; (with_reducible refine (num_Take.calls k _ _ l0 t666 t667 t668 _ ?side1 ?side2 A4.out).mono ?_); (case side1 => exact xC HR0.out); (case side2 => exact HC0.out); rintro e w' ⟨rfl, ⟨nd, rfl⟩⟩; refine ⟨_, rfl, ?_⟩))
    go_loopg [8, 10, 11] k (fun kq v8 v10 v11 w' => ∃ (x8_1 : Int) (x10_1 : List Int) (x11_1 : Int), v8 = .int .i64 x8_1 ∧ v11 = .int .i64 x11_1 ∧ Aside0 (pfor_TakeList.l0 kq l0 x8_1 x10_1 x11_1 = some (r1, r2, r3)) ∧ Aside0 (kq ≤ k) ∧ Aside0 (Kd.R (Kd.int .u64) 40 w' w.heap.size (fun _ => True) v10 x10_1) ∧ Aside0 (Below w.heap.size w w'))
    case atStart => exact ⟨(t667), (([] : List Int)), (wrap64 (t666)), (by first | rfl | (simp; done) | (simp [*]; done)), (by first | rfl | (simp; done) | (simp [*]; done)), H', ⟨Nat.le_refl _⟩, ⟨by first | exact Kd.R_nil _ _ _ _ _ | exact Kd.N_nil _ _ _ _ _ | exact Kd.V_nil _ _ _ _ _ | exact Kd.Q_nil _ _ _ _ _ | exact Kd.S_nil _ _ _ _ _⟩, ⟨xB HB.out⟩⟩
    case round =>
     clear H'
     try clear p2
     try clear c3
     try clear c3b0
     try clear c5
     try clear c5b0
     try clear c5b1
     try clear c6
     try clear c6b0
     try clear p6
     obtain ⟨x8_1, x10_1, x11_1, rfl, rfl, HA, HK1, HO_10, HB⟩ := hrel
     cases gk with
     | zero => exact absurd HA.out (by simp [pfor_TakeList.l0])
     | succ k1 =>
      have H := HA.out
      clear HA
      simp only [pfor_TakeList.l0] at H
      by_cases c7 : x11_1 > 0
      ·
       rw [if_pos c7] at H
       have c7b0 : decide (0 < x11_1) = true := decide_eq_true c7
       clear c7
       by_cases c8 : 0 ≤ x8_1
       ·
        rw [if_pos c8] at H
        have c8b0 := eq_true c8
        have c8b1 : decide (0 ≤ x8_1) = true := decide_eq_true c8
        clear c8
        by_cases c9 : x8_1 ≤ (l0.length : Int)
        ·
         rw [if_pos c9] at H
         have c9b0 := eq_true c9
         have c9b1 : decide (x8_1 ≤ (l0.length : Int)) = true := decide_eq_true c9
         clear c9
         obtain ⟨y669, hy669⟩ : ∃ y_ : List Int, y_ = (l0.drop (x8_1 : Int).toNat) := ⟨_, rfl⟩
         replace H : ((pfor_TakeBlock.f k1 y669).bind fun bt673 => (if bt673.2.2 = 0 then (if (bt673.1.length : Int) = (mn x11_1 32) then (if x10_1.length + bt673.1.length < 17592186044416 then (pfor_TakeList.l0 k1 l0 (wrap64 (x8_1 + bt673.2.1)) (x10_1 ++ bt673.1) (wrap64 (x11_1 - (bt673.1.length : Int)))) else (none)) else (some (([] : List Int), 0, 2))) else (some (([] : List Int), 0, 2)))) = some (r1, r2, r3) := by first | (rw [hy669]; with_reducible exact H) | (have H2_ := (Option.bind_some _ _).symm.trans H; rw [hy669]; with_reducible exact H2_) | (have H2_ := (Option.bind_some _ _).symm.trans H; with_reducible exact H2_) | with_reducible exact H | (rw [hy669]; exact H) | exact H
         have Ny669 := aM hy669
         clear hy669
         replace H := Option.bind_eq_some_iff.mp H
         obtain ⟨⟨t673, t674, t675⟩, A100, H⟩ := H
         replace H : (if t675 = 0 then (if (t673.length : Int) = (mn x11_1 32) then (if x10_1.length + t673.length < 17592186044416 then (pfor_TakeList.l0 k1 l0 (wrap64 (x8_1 + t674)) (x10_1 ++ t673) (wrap64 (x11_1 - (t673.length : Int)))) else (none)) else (some (([] : List Int), 0, 2))) else (some (([] : List Int), 0, 2))) = some (r1, r2, r3) := H
         have A10 := aM A100
         clear A100
         by_cases c11 : t675 = 0
         ·
          rw [if_pos c11] at H
          have c11b0 : (t675 == 0) = true := beq_iff_eq.mpr c11
          have c11b1 : (t675 != 0) = false := bne_eq_false_iff_eq.mpr c11
          clear c11
          obtain ⟨ji12, hji12⟩ : ∃ j_ : Int, (mn x11_1 32) = j_ := ⟨_, rfl⟩
          replace H : (if (t673.length : Int) = (ji12) then (if x10_1.length + t673.length < 17592186044416 then (pfor_TakeList.l0 k1 l0 (wrap64 (x8_1 + t674)) (x10_1 ++ t673) (wrap64 (x11_1 - (t673.length : Int)))) else (none)) else (some (([] : List Int), 0, 2))) = some (r1, r2, r3) := by first | (rw [hji12] at H; exact H) | (simp only [hji12] at H ⊢; exact H)
          (try rw [hji12] at A10)
          have hji12_ : (if 32 < x11_1 then 32 else x11_1) = ji12 := hji12
          by_cases c13 : (t673.length : Int) = (ji12)
          ·
           rw [if_pos c13] at H
           have c13b0 : ((t673.length : Int) == (ji12)) = true := beq_iff_eq.mpr c13
           have c13b1 : ((t673.length : Int) != (ji12)) = false := bne_eq_false_iff_eq.mpr c13
           clear c13
           by_cases c14 : x10_1.length + t673.length < 17592186044416
           ·
            rw [if_pos c14] at H
            have LMc14 := aM c14
            clear c14
            obtain ⟨y678, hy678⟩ : ∃ y_ : List Int, y_ = (x10_1 ++ t673) := ⟨_, rfl⟩
            replace H : (pfor_TakeList.l0 k1 l0 (wrap64 (x8_1 + t674)) y678 (wrap64 (x11_1 - (t673.length : Int)))) = some (r1, r2, r3) := by first | (rw [hy678]; with_reducible exact H) | (have H2_ := (Option.bind_some _ _).symm.trans H; rw [hy678]; with_reducible exact H2_) | (have H2_ := (Option.bind_some _ _).symm.trans H; with_reducible exact H2_) | with_reducible exact H | (rw [hy678]; exact H) | exact H
            have Ny678 := aM hy678
            clear hy678
            have H' := aM H
            clear H
            have q15 : (x8_1 : Int) ≤ ((l0.length : Int) : Int) := of_decide_eq_true (by first | (with_reducible assumption) | assumption)
            obtain ⟨i015, hi015, _, hsz15, _⟩ := info_parts info5
            have hroom15 : l0.length ≤ c0 := HC0.out
            have hC15 : Kd.C (Kd.int .u8) _ A0 l0.length l0 := HR0.out
            have q015 : (0 : Int) ≤ (x8_1 : Int) := of_decide_eq_true (by first | (with_reducible assumption) | assumption)
            have hcut15 := cut_from (P := Try.prog) 22 5 .i64 Try.underlying22 hi015 1 hsz15 A0 l0.length c0 x8_1 q015 q15
            have hr15 := Kd.C_drop (m := (x8_1 : Int).toNat) (c := c0) hC15 (by omega) hroom15
            obtain ⟨A15, hA15⟩ : ∃ A_z, A_z = (if c0 = (x8_1 : Int).toNat then A0 else (A0 : Option Addr).map (·.add ((x8_1 : Int).toNat * 1))) := ⟨_, rfl⟩
            obtain ⟨c15, hc15⟩ : ∃ c_z, c_z = c0 - (x8_1 : Int).toNat := ⟨_, rfl⟩
            have hy15 : y669.length = l0.length - (x8_1 : Int).toNat := (by rw [Ny669.out, List.length_drop] <;> omega)
            rw [show (l0).drop (x8_1 : Int).toNat = y669 from Ny669.out.symm] at hr15
            replace hr15 : Kd.C (Kd.int .u8) _ A15 y669.length y669 := (by rw [hA15]; exact hr15)
            rw [← hy15, ← hA15, ← hc15] at hcut15
            have HR672 := aM hr15
            have HC672 := aM (show y669.length ≤ c15 from by rw [hy15, hc15]; exact Nat.sub_le_sub_right hroom15 _)
            clear hr15 hC15 hroom15 hi015 hsz15 hc15
            have KY15 := aM hy15
            have KA15 := aM hA15
            clear hy15 hA15
            replace q15 := eq_true q15
            go_wp2_with (first | ((with_reducible refine gate_callee (f := 59) rfl ?_); refine goesL_ (some 37) rfl rfl Try.func59 (by kernel_rfl) rfl #[.slice A15 y669.length c15] rfl (by (try simp only [List.map_toArray, List.map_cons, List.map_nil]); first | done | rfl | (simp only [List.length_drop, List.length_take]; rfl)) ?_; (with_reducible refine (pfor_TakeBlock.calls k1 _ _ y669 t673 t674 t675 _ ?side1 ?side2 A10.out).mono ?_); (case side1 => exact xC (Kd.C_below HR672.out HB.out)); (case side2 => exact HC672.out); rintro e w16 ⟨v676, rfl, ho0, hb⟩; refine ⟨_, rfl, ?_⟩; have n0_ := aM (Kd.R_elder' (xR HO_10.out) (Kd.R_base ho0) hb); have n1_ := aM (Kd.R_lower (Kd.R_new' ho0 (Kd.R_lt (xR HO_10.out))) (below_size (xB HB.out))); have n2_ := aM (below_step (xB HB.out) hb); clear HO_10; clear HB; have HO_10 := n0_; have HO677 := n1_; have HB := n2_; clear n0_ n1_ n2_; (try clear hb); (try clear hb2); (try clear hk); (try clear hi); (try clear ho0); obtain ⟨Ao17, co17, eo17⟩ := Kd.R_slice HO677.out; subst eo17) | ((with_reducible refine gate_builtin (b := .append) (xs := #[.tmp 50, .tmp 51]) rfl ?_); (try (refine gate_guard (by rfl) ?_; dsimp only)); at_builtin; refine Kd.R_append_rows (Kd.int .u64) (w0 := w) w.heap.size rfl (.tmp 50) (.tmp 51) 39 40 (.int .u64 0) 8 rfl Try.underlying39 info40 rfl (by decide) (by omega) u10 x10_1 t673 _ _ _ (fun k_ => some k_ ≠ (.slice Ao17 t673.length co17 : Value).ownBlock) (fun _ => False) rfl rfl ?aO ?aR (fun _ _ h => h) (fun _ h => h.elim) ?aF ?aB ?aS ?aL ?_; (case aR => exact xC ((Kd.R_reads' HO677.out).2.2)); (case aB => exact (xB HB.out)); (case aF => exact (fun k_ hk => Kd.fresh' (Kd.R_lt (xR HO677.out)) k_ hk)); (case aO => exact (by (with_reducible repeat (first | apply Kd.R_alloc | apply Kd.R_drewN | apply Kd.R_drew)); exact Kd.R_mono HO_10.out (fun _ hk => hk.2))); (case aS => exact (below_size (xB HB.out))); (case aL => have := LMc14.out; omega); intro v679 w18 ho hb hg hat; rw [← Ny678.out] at ho; have n0_ := aM (Kd.R_after (ok := (fun _ => True)) (xR HO677.out) hg hat); have n1_ := aM (hb); have n2_ := aM (ho); clear HO677; clear HB; clear HO_10; have HO677 := n0_; have HB := n1_; have HO680 := n2_; clear n0_ n1_ n2_; clear ho hb hg hat))
            go_roundg k1
            case measure => have := HK1.out; omega
            case rel => exact ⟨(wrap64 (x8_1 + t674)), (y678), (wrap64 (x11_1 - (t673.length : Int))), (by first | rfl | (simp; done) | (simp [*]; done)), (by first | rfl | (simp; done) | (simp [*]; done)), H', ⟨by have := HK1.out; omega⟩, ⟨by (with_reducible repeat (first | apply Kd.R_alloc | apply Kd.R_drewN | apply Kd.R_drew)); exact Kd.R_mono HO680.out (fun _ hk => trivial)⟩, ⟨xB HB.out⟩⟩
           ·
            rw [if_neg c14] at H
            exact absurd H (by simp)
          ·
           rw [if_neg c13] at H
           have c13b0 : ((t673.length : Int) == (ji12)) = false := beq_eq_false_iff_ne.mpr c13
           have c13b1 : ((t673.length : Int) != (ji12)) = true := bne_iff_ne.mpr c13
           clear c13
           simp only [Option.some.injEq, Prod.mk.injEq] at H
           obtain ⟨rfl, rfl, rfl⟩ := H
           have q19 : (x8_1 : Int) ≤ ((l0.length : Int) : Int) := of_decide_eq_true (by first | (with_reducible assumption) | assumption)
           obtain ⟨i019, hi019, _, hsz19, _⟩ := info_parts info5
           have hroom19 : l0.length ≤ c0 := HC0.out
           have hC19 : Kd.C (Kd.int .u8) _ A0 l0.length l0 := HR0.out
           have q019 : (0 : Int) ≤ (x8_1 : Int) := of_decide_eq_true (by first | (with_reducible assumption) | assumption)
           have hcut19 := cut_from (P := Try.prog) 22 5 .i64 Try.underlying22 hi019 1 hsz19 A0 l0.length c0 x8_1 q019 q19
           have hr19 := Kd.C_drop (m := (x8_1 : Int).toNat) (c := c0) hC19 (by omega) hroom19
           obtain ⟨A19, hA19⟩ : ∃ A_z, A_z = (if c0 = (x8_1 : Int).toNat then A0 else (A0 : Option Addr).map (·.add ((x8_1 : Int).toNat * 1))) := ⟨_, rfl⟩
           obtain ⟨c19, hc19⟩ : ∃ c_z, c_z = c0 - (x8_1 : Int).toNat := ⟨_, rfl⟩
           have hy19 : y669.length = l0.length - (x8_1 : Int).toNat := (by rw [Ny669.out, List.length_drop] <;> omega)
           rw [show (l0).drop (x8_1 : Int).toNat = y669 from Ny669.out.symm] at hr19
           replace hr19 : Kd.C (Kd.int .u8) _ A19 y669.length y669 := (by rw [hA19]; exact hr19)
           rw [← hy19, ← hA19, ← hc19] at hcut19
           have HR672 := aM hr19
           have HC672 := aM (show y669.length ≤ c19 from by rw [hy19, hc19]; exact Nat.sub_le_sub_right hroom19 _)
           clear hr19 hC19 hroom19 hi019 hsz19 hc19
           have KY19 := aM hy19
           have KA19 := aM hA19
           clear hy19 hA19
           replace q19 := eq_true q19
           go_wp2_with (first | ((with_reducible refine gate_callee (f := 59) rfl ?_); refine goesL_ (some 37) rfl rfl Try.func59 (by kernel_rfl) rfl #[.slice A19 y669.length c19] rfl (by (try simp only [List.map_toArray, List.map_cons, List.map_nil]); first | done | rfl | (simp only [List.length_drop, List.length_take]; rfl)) ?_; (with_reducible refine (pfor_TakeBlock.calls k1 _ _ y669 t673 t674 t675 _ ?side1 ?side2 A10.out).mono ?_); (case side1 => exact xC (Kd.C_below HR672.out HB.out)); (case side2 => exact HC672.out); rintro e w20 ⟨v676, rfl, ho0, hb⟩; refine ⟨_, rfl, ?_⟩; have n0_ := aM (Kd.R_elder' (xR HO_10.out) (Kd.R_base ho0) hb); have n1_ := aM (Kd.R_lower (Kd.R_new' ho0 (Kd.R_lt (xR HO_10.out))) (below_size (xB HB.out))); have n2_ := aM (below_step (xB HB.out) hb); clear HO_10; clear HB; have HO_10 := n0_; have HO677 := n1_; have HB := n2_; clear n0_ n1_ n2_; (try clear hb); (try clear hb2); (try clear hk); (try clear hi); (try clear ho0); obtain ⟨Ao21, co21, eo21⟩ := Kd.R_slice HO677.out; subst eo21))
           go_ret3
           exact ⟨_, by first | rfl | (simp [errW_none, errW_some] <;> rfl) | (simp only [← hji12]; first | rfl | (simp [errW_none, errW_some] <;> rfl)) | (simp [*, errW_none, errW_some] <;> rfl), by first | exact Kd.R_nil _ _ _ _ _ | exact Kd.N_nil _ _ _ _ _ | exact Kd.V_nil _ _ _ _ _ | exact Kd.Q_nil _ _ _ _ _ | exact Kd.S_nil _ _ _ _ _, xB HB.out⟩
         ·
          rw [if_neg c11] at H
          have c11b0 : (t675 == 0) = false := beq_eq_false_iff_ne.mpr c11
          have c11b1 : (t675 != 0) = true := bne_iff_ne.mpr c11
          simp only [Option.some.injEq, Prod.mk.injEq] at H
          obtain ⟨rfl, rfl, rfl⟩ := H
          have q22 : (x8_1 : Int) ≤ ((l0.length : Int) : Int) := of_decide_eq_true (by first | (with_reducible assumption) | assumption)
          obtain ⟨i022, hi022, _, hsz22, _⟩ := info_parts info5
          have hroom22 : l0.length ≤ c0 := HC0.out
          have hC22 : Kd.C (Kd.int .u8) _ A0 l0.length l0 := HR0.out
          have q022 : (0 : Int) ≤ (x8_1 : Int) := of_decide_eq_true (by first | (with_reducible assumption) | assumption)
          have hcut22 := cut_from (P := Try.prog) 22 5 .i64 Try.underlying22 hi022 1 hsz22 A0 l0.length c0 x8_1 q022 q22
          have hr22 := Kd.C_drop (m := (x8_1 : Int).toNat) (c := c0) hC22 (by omega) hroom22
          obtain ⟨A22, hA22⟩ : ∃ A_z, A_z = (if c0 = (x8_1 : Int).toNat then A0 else (A0 : Option Addr).map (·.add ((x8_1 : Int).toNat * 1))) := ⟨_, rfl⟩
          obtain ⟨c22, hc22⟩ : ∃ c_z, c_z = c0 - (x8_1 : Int).toNat := ⟨_, rfl⟩
          have hy22 : y669.length = l0.length - (x8_1 : Int).toNat := (by rw [Ny669.out, List.length_drop] <;> omega)
          rw [show (l0).drop (x8_1 : Int).toNat = y669 from Ny669.out.symm] at hr22
          replace hr22 : Kd.C (Kd.int .u8) _ A22 y669.length y669 := (by rw [hA22]; exact hr22)
          rw [← hy22, ← hA22, ← hc22] at hcut22
          have HR672 := aM hr22
          have HC672 := aM (show y669.length ≤ c22 from by rw [hy22, hc22]; exact Nat.sub_le_sub_right hroom22 _)
          clear hr22 hC22 hroom22 hi022 hsz22 hc22
          have KY22 := aM hy22
          have KA22 := aM hA22
          clear hy22 hA22
          replace q22 := eq_true q22
          go_wp2_with (first | ((with_reducible refine gate_callee (f := 59) rfl ?_); refine goesL_ (some 37) rfl rfl Try.func59 (by kernel_rfl) rfl #[.slice A22 y669.length c22] rfl (by (try simp only [List.map_toArray, List.map_cons, List.map_nil]); first | done | rfl | (simp only [List.length_drop, List.length_take]; rfl)) ?_; (with_reducible refine (pfor_TakeBlock.calls k1 _ _ y669 t673 t674 t675 _ ?side1 ?side2 A10.out).mono ?_); (case side1 => exact xC (Kd.C_below HR672.out HB.out)); (case side2 => exact HC672.out); rintro e w23 ⟨v676, rfl, ho0, hb⟩; refine ⟨_, rfl, ?_⟩; have n0_ := aM (Kd.R_elder' (xR HO_10.out) (Kd.R_base ho0) hb); have n1_ := aM (Kd.R_lower (Kd.R_new' ho0 (Kd.R_lt (xR HO_10.out))) (below_size (xB HB.out))); have n2_ := aM (below_step (xB HB.out) hb); clear HO_10; clear HB; have HO_10 := n0_; have HO677 := n1_; have HB := n2_; clear n0_ n1_ n2_; (try clear hb); (try clear hb2); (try clear hk); (try clear hi); (try clear ho0)))
          go_ret3
          exact ⟨_, by first | rfl | (simp [errW_none, errW_some] <;> rfl) | (simp [*, errW_none, errW_some] <;> rfl), by first | exact Kd.R_nil _ _ _ _ _ | exact Kd.N_nil _ _ _ _ _ | exact Kd.V_nil _ _ _ _ _ | exact Kd.Q_nil _ _ _ _ _ | exact Kd.S_nil _ _ _ _ _, xB HB.out⟩
        ·
         rw [if_neg c9] at H
         exact absurd H (by simp)
       ·
        rw [if_neg c8] at H
        exact absurd H (by simp)
      ·
       rw [if_neg c7] at H
       have c7b0 : decide (0 < x11_1) = false := decide_eq_false c7
       clear c7
       simp only [Option.some.injEq, Prod.mk.injEq] at H
       obtain ⟨rfl, rfl, rfl⟩ := H
       go_wp2
       go_ret3
       exact ⟨_, by first | rfl | (simp [errW_none, errW_some] <;> rfl) | (simp [*, errW_none, errW_some] <;> rfl), by (with_reducible repeat (first | apply Kd.R_alloc | apply Kd.R_drewN | apply Kd.R_drew)); exact HO_10.out, xB HB.out⟩
  ·
   rw [if_neg c5] at H
   have c5b0 : (t668 == 0) = false := beq_eq_false_iff_ne.mpr c5
   have c5b1 : (t668 != 0) = true := bne_iff_ne.mpr c5
   simp only [Option.some.injEq, Prod.mk.injEq] at H
   obtain ⟨rfl, rfl, rfl⟩ := H
   go_enter Try.func31, Try.ntmps31
   go_wp2_with (first | ((with_reducible refine gate_callee (f := 58) rfl ?_); refine goesL_ (some 19) rfl rfl Try.func58 (by kernel_rfl) rfl #[.slice A0 l0.length c0] rfl (by (try simp only [List.map_toArray, List.map_cons, List.map_nil]); first | done | rfl | (simp only [List.length_drop, List.length_take]; rfl)) ?_; (with_reducible refine (num_Take.calls k _ _ l0 t666 t667 t668 _ ?side1 ?side2 A4.out).mono ?_); (case side1 => exact xC HR0.out); (case side2 => exact HC0.out); rintro e w' ⟨rfl, ⟨nd, rfl⟩⟩; refine ⟨_, rfl, ?_⟩))
   go_ret3
   exact ⟨_, by first | rfl | (simp [errW_none, errW_some] <;> rfl) | (simp [*, errW_none, errW_some] <;> rfl), by first | exact Kd.R_nil _ _ _ _ _ | exact Kd.N_nil _ _ _ _ _ | exact Kd.V_nil _ _ _ _ _ | exact Kd.Q_nil _ _ _ _ _ | exact Kd.S_nil _ _ _ _ _, xB HB.out⟩
end Go.Proofs.Ythaifibhflfpkaa.Q
end
section
namespace Go.Proofs.Ythaifibhflfpkaa.Q
open Go.RowKit Go.Proofs.YthaifibhflfpkaaW.PrintWords Go.Proofs.YthaifibhflfpkaaW.PrintLast Go.Proofs.YthaifibhflfpkaaW.PrintMore Go.Proofs.YthaifibhflfpkaaX
namespace Law
theorem ints_cons (x : Nat) (a : List Nat) : ints (x :: a) = (x : Int) :: ints a := rfl
theorem ints_append (a b : List Nat) : ints (a ++ b) = ints a ++ ints b := by simp [ints]
theorem read_base (a : List Nat) (base : Nat) (hl : a.length ≤ 32) (hb : ∀ x ∈ a, x < 2 ^ 64) (hm : ∀ x ∈ a, base ≤ x) (x9 : Int) : ∀ (r p : List Nat) (i : Nat), a = p ++ r → p.length = i → Ev (fun k => pfor_read.l1 k (base : Int) x9 (ints (p ++ r.map fun x => x - base)) (a.length : Int) (i : Int)) (ints a, x9, true)
  | [], p, i, ha, hp => by
    rw [List.append_nil] at ha
    subst ha
    refine Ev.step (fun k => by rw [pfor_read.l1]) ?_
    refine Ev.neg (by omega) ?_
    rw [List.map_nil, List.append_nil]
    exact Ev.now _
  | x :: r, p, i, ha, hp => by
    have hL : a.length = p.length + (r.length + 1) := by rw [ha]; simp
    have ih := read_base a base hl hb hm x9 r (p ++ [x]) (i + 1) (by rw [ha]; simp) (by simp [hp])
    have hxm : x ∈ a := by rw [ha]; simp
    have h1 := hb x hxm
    have h2 := hm x hxm
    have hpi : i = (ints p).length := by rw [ints_length, hp]
    have e : IntKind.u64.wrap (((x - base : Nat) : Int) + (base : Int)) = (x : Int) := by
      rw [show ((x - base : Nat) : Int) + (base : Int) = ((x : Nat) : Int) by omega, wrapu x h1]
    have HE := Lib.hid e
    clear e
    rw [List.map_cons, ints_append, ints_cons]
    refine Ev.step (fun k => by rw [pfor_read.l1, rd_mid _ _ _ i hpi, HE.out, Int.toNat_natCast, set_mid _ _ _ _ i hpi, w64_succ i (by omega)]) ?_
    refine Ev.pos (by omega) (Ev.pos (by omega) (Ev.pos (by simp [ints_length]; omega) ?_))
    rw [ints_append, ints_snoc, List.append_assoc] at ih
    exact ih
theorem tailT_cons (w i d : Nat) (r : List Nat) : tailT w i (d :: r) = (if 0 < d / 2 ^ w then (i : Int) % 256 :: numB (d / 2 ^ w) else []) ++ tailT w (i + 1) r := rfl
theorem split_low (d w : Nat) : d % 2 ^ w + d / 2 ^ w * 2 ^ w = d := by
  rw [Nat.mul_comm]
  exact Nat.mod_add_div d (2 ^ w)
theorem read_tail (x0 rest : List Int) (w n : Nat) (base : Int) (hw : w ≤ 64) (hn : n ≤ 32) (hx : x0.length < 140737488355328) {R : List Int × Int × Bool} : ∀ (r pd : List Nat) (i : Nat) (pre : List Int), x0 = pre ++ (tailT w i r ++ rest) → pd.length = i → i + r.length = n → (∀ d ∈ r, d < 2 ^ 64) →
    Ev (fun k => pfor_read.l1 k base ((x0.length - rest.length : Nat) : Int) (ints (pd ++ r)) (n : Int) 0) R →
    Ev (fun k => pfor_read.l0 k x0 (n : Int) base (pre.length : Int) (w : Int) (cntT w r : Int) (ints (pd ++ lowT w r))) R
  | [], pd, i, pre, h0, hp, hi, hb, hk => by
    have hL : x0.length = pre.length + rest.length := by rw [h0]; simp [tailT]
    refine Ev.step (fun k => by rw [pfor_read.l0]) ?_
    refine Ev.neg (by simp [cntT]) ?_
    rw [show x0.length - rest.length = pre.length by omega] at hk
    rw [List.length_nil] at hi
    rw [ints_length, List.length_append, lowT, List.map_nil, List.length_nil, show pd.length + 0 = n by omega]
    exact hk
  | d :: r, pd, i, pre, h0, hp, hi, hb, hk => by
    have hd := hb d (by simp)
    rw [List.length_cons] at hi
    by_cases h : 0 < d / 2 ^ w
    · rw [tailT_cons, if_pos h] at h0
      have hw64 : w < 64 := by
        rcases Nat.lt_or_ge w 64 with h' | h'
        · exact h'
        · have : w = 64 := by omega
          subst this
          rw [Nat.div_eq_of_lt hd] at h
          omega
      obtain ⟨H, hH⟩ : ∃ H, H = d / 2 ^ w := ⟨_, rfl⟩
      have hHl : H < 18446744073709551616 := by rw [hH]; exact Nat.lt_of_le_of_lt (Nat.div_le_self _ _) hd
      rw [← hH] at h0
      have hib : (i : Int) % 256 = (i : Int) := by omega
      rw [hib] at h0
      have ih := read_tail x0 rest w n base hw hn hx r (pd ++ [d]) (i + 1) (pre ++ ((i : Int) :: numB H)) (by rw [h0]; simp) (by simp [hp]) (by omega) (fun y hy => hb y (by simp [hy])) (by rw [List.append_assoc]; exact hk)
      have hL : x0.length = pre.length + (1 + (numB H).length + (tailT w (i + 1) r).length + rest.length) := by rw [h0]; simp; omega
      have hdrop : x0.drop (pre.length + 1) = numB H ++ (tailT w (i + 1) r ++ rest) := by
        rw [h0, List.drop_append, List.drop_of_length_le (by omega), show pre.length + 1 - pre.length = 1 by omega]
        simp
      have hrd : rd x0 (pre.length : Int) = (i : Int) := by
        rw [h0, rd_nat, List.getD_eq_getElem?_getD, List.getElem?_append_right (Nat.le_refl _), Nat.sub_self]
        rfl
      have htk := take H hHl (tailT w (i + 1) r ++ rest) (by rw [List.length_append]; omega)
      have hnl := numB_le H hHl
      have hpi : i = (ints pd).length := by rw [ints_length, hp]
      have hsp := split_low d w
      rw [← hH] at hsp
      have hsh : H * 2 ^ w < 2 ^ 64 := by omega
      have HV : Hid (IntKind.u64.wrap (((d % 2 ^ w : Nat) : Int) + shl .u64 (H : Int) (w : Int)) = (d : Int)) := by
        refine Lib.hid ?_
        rw [shl_nat _ _ (by omega) hsh, ← Int.natCast_add, hsp, wrapu d hd]
      clear hsp hsh
      have c1 := cntT_pos (w := w) (d := d) r (by rw [← hH]; omega)
      have cle : cntT w r ≤ 32 := by
        have := List.length_filter_le (fun d => decide (0 < d / 2 ^ w)) r
        unfold cntT
        omega
      have w1 := Lib.hid (w64_nat (i : Int) i rfl (by omega))
      have w2 := Lib.hid (w64_nat ((pre.length : Int) + 1) (pre.length + 1) (by simp) (by omega))
      have w3 := Lib.hid (w64_nat (1 + ((numB H).length : Int)) (1 + (numB H).length) (by simp) (by omega))
      have w4 := Lib.hid (w64_nat ((pre.length : Int) + ((1 + (numB H).length : Nat) : Int)) (pre.length + (1 + (numB H).length)) (by simp) (by omega))
      have w5 := Lib.hid (w64_nat (((cntT w r + 1 : Nat) : Int) - 1) (cntT w r) (by omega) (by omega))
      rw [c1]
      have hlow : ints (pd ++ lowT w (d :: r)) = ints pd ++ ((d % 2 ^ w : Nat) : Int) :: ints (lowT w r) := by
        rw [ints_append]
        rfl
      have hlen : (ints pd ++ ((d % 2 ^ w : Nat) : Int) :: ints (lowT w r)).length = n := by
        rw [List.length_append, List.length_cons, ints_length, ints_length, lowT, List.length_map]
        omega
      rw [hlow]
      refine Ev.step (fun k => by rw [pfor_read.l0, hrd, w1.out]) ?_
      refine Ev.pos (by omega) (Ev.neg (by omega) (Ev.pos (by omega) (Ev.pos (by omega) (Ev.neg (by omega) ?_))))
      rw [show ((w : Int) == 64) = false by rw [beq_eq_false_iff_ne]; omega]
      refine Ev.step (fun k => by rw [pfor_read.j3, hrd, w1.out, w2.out, w5.out, Int.toNat_natCast, Int.toNat_natCast, hdrop, rd_mid _ _ _ i hpi]) ?_
      refine Ev.neg (by decide) (Ev.pos (by omega) (Ev.pos (by omega) (Ev.pos (by omega) (Ev.pos (by omega) (Ev.bind htk ?_)))))
      refine Ev.pos rfl (Ev.pos (by omega) (Ev.pos (by omega) (Ev.pos (by omega) ?_)))
      show Ev (fun k => pfor_read.l0 k x0 (n : Int) base (wrap64 ((pre.length : Int) + wrap64 (1 + ((numB H).length : Int)))) (w : Int) (cntT w r : Int) ((ints pd ++ ((d % 2 ^ w : Nat) : Int) :: ints (lowT w r)).set i (IntKind.u64.wrap (((d % 2 ^ w : Nat) : Int) + shl .u64 (H : Int) (w : Int))))) R
      rw [HV.out, set_mid _ _ _ _ i hpi, w3.out, w4.out]
      rw [show (pre ++ (i : Int) :: numB H).length = pre.length + (1 + (numB H).length) by simp; omega, ints_append, ints_snoc, List.append_assoc] at ih
      exact ih
    · rw [tailT_cons, if_neg h, List.nil_append] at h0
      have ih := read_tail x0 rest w n base hw hn hx r (pd ++ [d]) (i + 1) pre h0 (by simp [hp]) (by omega) (fun y hy => hb y (by simp [hy])) (by rw [List.append_assoc]; exact hk)
      rw [cntT_neg r h]
      have hlow : d % 2 ^ w = d := by
        have := split_low d w
        rw [show d / 2 ^ w = 0 from Nat.eq_zero_of_not_pos h, Nat.zero_mul, Nat.add_zero] at this
        exact this
      have e : pd ++ lowT w (d :: r) = (pd ++ [d]) ++ lowT w r := by
        rw [lowT, List.map_cons, hlow]
        simp [lowT]
      rw [e]
      exact ih
theorem rd_pre (x0 pre suf : List Int) (y : Int) (h : x0 = pre ++ y :: suf) (n : Nat) (hn : n = pre.length) : rd x0 (n : Int) = y := by
  subst h
  exact rd_mid pre suf y n hn
theorem read (a : List Nat) (w : Nat) (hw : w ≤ 64) (h0 : 0 < a.length) (hl : a.length ≤ 32) (hb : ∀ x ∈ a, x < 2 ^ 64) (rest : List Int) (hr : rest.length < 140737488350000) (hby : (byT a w).length ≤ 2000) :
    Ev (fun k => pfor_read.f k (byT a w ++ rest)) (ints a, ((byT a w).length : Int), true) := by
  obtain ⟨n, hn⟩ : ∃ n, n = a.length := ⟨_, rfl⟩
  obtain ⟨ds, hds⟩ : ∃ ds, ds = lessT a := ⟨_, rfl⟩
  obtain ⟨b, hbs⟩ : ∃ b, b = baseT a := ⟨_, rfl⟩
  obtain ⟨L, hL⟩ : ∃ L, L = (w * n + 7) / 8 := ⟨_, rfl⟩
  have hdl : ds.length = n := by rw [hds, lessT_length, hn]
  have hdlt : ∀ d ∈ ds, d < 2 ^ 64 := by rw [hds]; exact lessT_lt a hb
  have hbl : b < 18446744073709551616 := by
    rw [hbs]
    have hm := (minT_le a (a.getD 0 0)).2 (a[0]'h0) (List.getElem_mem h0)
    exact Nat.lt_of_le_of_lt hm (hb _ (List.getElem_mem h0))
  obtain ⟨h, hh⟩ : ∃ h, h = (numB b).length := ⟨_, rfl⟩
  have hh9 := numB_le b hbl
  obtain ⟨X, hX⟩ : ∃ X, X = byT a w ++ rest := ⟨_, rfl⟩
  obtain ⟨lo, hlo⟩ : ∃ lo, lo = le (sumw w (lowT w ds)) L := ⟨_, rfl⟩
  have hlol : lo.length = L := by rw [hlo, le_length]
  have hc : cntT w ds ≤ n := by
    have := List.length_filter_le (fun d => decide (0 < d / 2 ^ w)) ds
    unfold cntT
    omega
  have eX : X = ((n : Int) :: numB b ++ [(w : Int), (cntT w ds : Int)]) ++ (lo ++ (tailT w 0 ds ++ rest)) := by
    rw [hX, hlo, hL, hn, hds, hbs, byT]
    simp
  have hBl : (byT a w).length = X.length - rest.length := by rw [hX, List.length_append]; omega
  have hXl : X.length = 3 + h + L + (tailT w 0 ds).length + rest.length := by
    rw [eX]
    simp [hlol, ← hh]
    omega
  rw [hBl]
  rw [hXl] at hBl
  have hX47 : X.length < 140737488355328 := by omega
  have hbase := read_base a b hl hb (by rw [hbs]; exact (minT_le a _).2) ((X.length - rest.length : Nat) : Int) a [] 0 rfl rfl
  have hpre : X = (((n : Int) :: numB b ++ [(w : Int), (cntT w ds : Int)]) ++ lo) ++ (tailT w 0 ds ++ rest) := by rw [eX]; simp
  have htail := read_tail X rest w n b hw (by omega) hX47 ds [] 0 _ hpre rfl (by omega) hdlt (by
    rw [List.nil_append] at hbase ⊢
    rw [hds, hn]
    rw [hbs] at hbase ⊢
    exact hbase)
  rw [List.nil_append, show ((((n : Int) :: numB b ++ [(w : Int), (cntT w ds : Int)]) ++ lo)).length = 3 + h + L by simp [hlol, ← hh]; omega] at htail
  have hun := unpack w (lowT w ds) hw (by rw [lowT, List.length_map]; omega) (lowT_lt w ds)
  rw [show (lowT w ds).length = n by rw [lowT, List.length_map]; exact hdl, ← hL, ← hlo] at hun
  have r0 : rd X 0 = (n : Int) := by rw [eX]; rfl
  have r1 : rd X ((1 + h : Nat) : Int) = (w : Int) := rd_pre X ((n : Int) :: numB b) ([(cntT w ds : Int)] ++ (lo ++ (tailT w 0 ds ++ rest))) _ (by rw [eX]; simp) _ (by simp [← hh]; omega)
  have r2 : rd X ((2 + h : Nat) : Int) = (cntT w ds : Int) := rd_pre X ((n : Int) :: numB b ++ [(w : Int)]) (lo ++ (tailT w 0 ds ++ rest)) _ (by rw [eX]; simp) _ (by simp [← hh]; omega)
  have hd1 : X.drop 1 = numB b ++ ([(w : Int), (cntT w ds : Int)] ++ (lo ++ (tailT w 0 ds ++ rest))) := by rw [eX]; simp
  have hcut : (X.take (3 + h + L)).drop (3 + h) = lo := by
    rw [hpre, List.take_left' (by simp [hlol, ← hh]; omega), List.drop_left' (by simp [← hh]; omega)]
  have htk := take b hbl ([(w : Int), (cntT w ds : Int)] ++ (lo ++ (tailT w 0 ds ++ rest))) (by simp [hlol]; omega)
  have hnw : n * w ≤ 32 * 64 := Nat.mul_le_mul (by omega) hw
  have hcw : n * w = w * n := Nat.mul_comm _ _
  have w0 := Lib.hid (w64_nat (n : Int) n rfl (by omega))
  have w1 := Lib.hid (w64_nat (1 + (h : Int)) (1 + h) (by simp) (by omega))
  have w2 := Lib.hid (w64_nat (((1 + h : Nat) : Int) + 1) (2 + h) (by omega) (by omega))
  have w3 := Lib.hid (w64_nat (((1 + h : Nat) : Int) + 2) (3 + h) (by omega) (by omega))
  have w4 := Lib.hid (w64_nat (w : Int) w rfl (by omega))
  have w5 := Lib.hid (w64_nat (cntT w ds : Int) (cntT w ds) rfl (by omega))
  have w6 : Hid (wrap64 ((n : Int) * (w : Int)) = ((w * n : Nat) : Int)) := Lib.hid (w64_nat _ _ (by rw [Nat.mul_comm w n]; simp) (by omega))
  have w7 : Hid (wrap64 (((w * n : Nat) : Int) + 7) = ((w * n + 7 : Nat) : Int)) := Lib.hid (w64_nat _ _ (by simp) (by omega))
  have w8 : Hid (wrap64 (Int.tdiv ((w * n + 7 : Nat) : Int) 8) = (L : Int)) := Lib.hid (by rw [hL]; exact (tdiv8 (w * n + 7) (by omega)).1)
  have w9 := Lib.hid (w64_nat (((3 + h : Nat) : Int) + (L : Int)) (3 + h + L) (by omega) (by omega))
  have hj1 : Ev (fun k => pfor_read.j1 k X (n : Int) (b : Int) ((1 + h : Nat) : Int) false) (ints a, ((X.length - rest.length : Nat) : Int), true) := by
    refine Ev.step (fun k => by rw [pfor_read.j1, w2.out, w3.out, r1, r2, w4.out, w5.out, w6.out, w7.out, w8.out, w9.out, Int.toNat_natCast, Int.toNat_natCast, hcut]) ?_
    refine Ev.neg (by decide) (Ev.pos (by omega) (Ev.pos (by omega) (Ev.pos (by omega) (Ev.pos (by omega) (Ev.neg (by omega) (Ev.pos (by omega) (Ev.pos (by omega) (Ev.pos (by omega) (Ev.bind hun (Ev.pos rfl ?_))))))))))
    exact htail
  have hj0 : Ev (fun k => pfor_read.j0 k X false) (ints a, ((X.length - rest.length : Nat) : Int), true) := by
    refine Ev.step (fun k => by rw [pfor_read.j0, hd1, r0, w0.out]) ?_
    refine Ev.neg (by decide) (Ev.pos (by omega) (Ev.pos (by omega) (Ev.bind htk (Ev.pos rfl ?_))))
    rw [← hh]
    show Ev (fun k => if (X.length : Int) < wrap64 (wrap64 (1 + (h : Int)) + 2) then _ else _) _
    rw [w1.out, w2.out, w3.out, r1, r2, w5.out]
    refine Ev.neg (by omega) (Ev.pos (by omega) (Ev.pos (by omega) (Ev.neg (by omega) (Ev.pos (by omega) (Ev.pos (by omega) ?_)))))
    rw [decide_eq_false (by omega)]
    exact hj1
  rw [← hX]
  unfold pfor_read.f
  rw [r0]
  refine Ev.neg (by omega) (Ev.pos (by omega) (Ev.neg (by omega) ?_))
  rw [decide_eq_false (by omega)]
  exact hj0
end Law
namespace Law
theorem takeBlock (a : List Nat) (h0 : 0 < a.length) (hl : a.length ≤ 32) (hb : ∀ x ∈ a, x < 2 ^ 64) (rest : List Int) (hr : rest.length < 140737488350000) :
    Ev (fun k => pfor_TakeBlock.f k (blockT a ++ rest)) (ints a, ((blockT a).length : Int), 0) := by
  have hby := blockT_le a h0 hl hb
  have hrd := read a (bestT (lessT a) 64 1 0) (bestT_le _ _ _ _ (by omega) (by omega)) h0 hl hb rest hr hby
  have hput := putBlock a h0 hl hb [] (by decide)
  rw [List.nil_append] at hput
  unfold pfor_TakeBlock.f
  refine Ev.bind hrd (Ev.pos rfl (Ev.bind hput (Ev.pos rfl (Ev.pos (Int.natCast_nonneg _) (Ev.pos (by rw [List.length_append]; exact Int.ofNat_le.2 (Nat.le_add_right _ _)) ?_)))))
  have he : (blockT a ++ rest).take ((((byT a (bestT (lessT a) 64 1 0)).length : Nat) : Int)).toNat = blockT a := by
    rw [Int.toNat_natCast]
    exact List.take_left' rfl
  refine Ev.get (a := true) ?_ ?_
  · show bytes_Equal.f (blockT a) ((blockT a ++ rest).take ((((byT a (bestT (lessT a) 64 1 0)).length : Nat) : Int)).toNat) = some true
    rw [he]
    unfold bytes_Equal.f
    rw [beq_self_eq_true]
  · exact Ev.pos rfl (Ev.now _)
theorem takeList (a : List Nat) (h0 : 0 < a.length) (hl : a.length ≤ 16) (hb : ∀ x ∈ a, x < 2 ^ 64) (rest : List Int) (hr : rest.length < 140737488340000) :
    Ev (fun k => pfor_TakeList.f k (numB a.length ++ (blockT a ++ rest)) 16) (ints a, ((numB a.length ++ blockT a).length : Int), 0) := by
  have hbl := blockT_le a h0 (by omega) hb
  have hnl := numB_le a.length (by omega)
  obtain ⟨n, hn⟩ : ∃ n, n = a.length := ⟨_, rfl⟩
  have htk := take n (by omega) (blockT a ++ rest) (by rw [List.length_append]; omega)
  have htb := takeBlock a h0 (by omega) hb rest (by omega)
  rw [← hn]
  obtain ⟨X, hX⟩ : ∃ X, X = numB n ++ (blockT a ++ rest) := ⟨_, rfl⟩
  rw [← hn] at hnl
  rw [← hX] at htk ⊢
  have hXl : X.length = (numB n).length + ((blockT a).length + rest.length) := by rw [hX]; simp
  have hdrop : X.drop (numB n).length = blockT a ++ rest := by rw [hX]; exact List.drop_left' rfl
  have w1 := Lib.hid (w64_nat (n : Int) n rfl (by omega))
  have w2 := Lib.hid (w64_nat (((numB n).length : Int) + ((blockT a).length : Int)) ((numB n).length + (blockT a).length) (by omega) (by omega))
  have w3 := Lib.hid (w64_nat ((n : Int) - (n : Int)) 0 (by omega) (by omega))
  have hmn : mn (n : Int) 32 = (n : Int) := by
    unfold mn
    split <;> omega
  have hlast : Ev (fun k => pfor_TakeList.l0 k X (((numB n).length + (blockT a).length : Nat) : Int) (ints a) ((0 : Nat) : Int)) (ints a, ((numB n ++ blockT a).length : Int), 0) := by
    refine Ev.step (fun k => by rw [pfor_TakeList.l0]) ?_
    refine Ev.neg (by omega) ?_
    rw [List.length_append]
    exact Ev.now _
  have hl0 : Ev (fun k => pfor_TakeList.l0 k X ((numB n).length : Int) [] (n : Int)) (ints a, ((numB n ++ blockT a).length : Int), 0) := by
    refine Ev.step (fun k => by rw [pfor_TakeList.l0, Int.toNat_natCast, hdrop, hmn]) ?_
    refine Ev.pos (by omega) (Ev.pos (by omega) (Ev.pos (by omega) (Ev.bind htb (Ev.pos rfl (Ev.pos (by simp only [ints_length]; omega) (Ev.pos (by simp only [ints_length, List.length_nil]; omega) ?_))))))
    show Ev (fun k => pfor_TakeList.l0 k X (wrap64 (((numB n).length : Int) + ((blockT a).length : Int))) ([] ++ ints a) (wrap64 ((n : Int) - ((ints a).length : Int)))) _
    rw [w2.out, ints_length, ← hn, w3.out, List.nil_append]
    exact hlast
  unfold pfor_TakeList.f
  refine Ev.neg (by decide) (Ev.bind htk (Ev.pos rfl (Ev.neg ?_ ?_)))
  · have : IntKind.u64.wrap 16 = 16 := by decide
    rw [this]
    show ¬ (n : Int) > 16
    omega
  · show Ev (fun k => pfor_TakeList.l0 k X ((numB n).length : Int) [] (wrap64 (n : Int))) _
    rw [w1.out]
    exact hl0
end Law
end Go.Proofs.Ythaifibhflfpkaa.Q
end
section
namespace Go.Proofs.Ythaifibhflfpkaa.Q
open Go.RowKit Go.Proofs.YthaifibhflfpkaaW.PrintWords Go.Proofs.YthaifibhflfpkaaW.PrintLast Go.Proofs.YthaifibhflfpkaaW.PrintMore Go.Proofs.YthaifibhflfpkaaX
attribute [local go_sem] max2_int min2_int max_two min_two max_three min_three max_four min_four   -- for this text's walks alone
set_option linter.unusedVariables false
set_option linter.unusedSimpArgs false
mutual
def sym_TakeTable.j0 : Nat → List Int → Int → Int → Bool → Option (List ByteArray × Int × Int)
 | 0, _, _, _, _ => none
 | k + 1, x0, x5, x6, x23 => if x23 = true then (some (([] : List ByteArray), 0, 2)) else (sym_TakeTable.l0 k x0 x6 ([] : List ByteArray) x5 0)
def sym_TakeTable.l0 : Nat → List Int → Int → List ByteArray → Int → Int → Option (List ByteArray × Int × Int)
 | 0, _, _, _, _, _ => none
 | k + 1, x0, x6, x8, x24, x25 => if x25 < x24 then (if 0 ≤ x6 then (if x6 ≤ (x0.length : Int) then ((num_TakeRow.f k (x0.drop (x6 : Int).toNat) 8).bind fun bt698 => (if bt698.2.2 = 0 then (if x8.length < 8796093022208 then (sym_TakeTable.l0 k x0 (wrap64 (x6 + bt698.2.1)) (x8 ++ [strOfNums bt698.1]) x24 (IntKind.u64.wrap (x25 + 1))) else (none)) else (some (([] : List ByteArray), 0, 2)))) else (none)) else (none)) else ((sym_Formed.f x8).bind fun t706 => (if t706 = true then (some (x8, x6, 0)) else (some (([] : List ByteArray), 0, 2))))
end
def sym_TakeTable.f (k : Nat) (l0 : List Int) : Option (List ByteArray × Int × Int) := (num_Take.f k l0).bind fun bt691 => (if bt691.2.2 = 0 then (sym_TakeTable.j0 k l0 bt691.1 bt691.2.1 (decide (bt691.1 > 32))) else (sym_TakeTable.j0 k l0 bt691.1 bt691.2.1 true))
set_option maxHeartbeats 8000000 in
set_option maxRecDepth 100000 in
theorem sym_TakeTable.calls (k : Nat) (A0 : Option Addr) (c0 : Nat) (l0 : List Int) (r1 : List ByteArray) (r2 : Int) (r3 : Int) (w : World) (hr0 : Kd.C (Kd.int .u8) w A0 l0.length l0) (hc0 : l0.length ≤ c0) (h : sym_TakeTable.f k l0 = some (r1, r2, r3)) :
  Calls Try.prog 62 #[.slice A0 l0.length c0] w fun e w' => ∃ v0_ : Value, e = .returned (.tuple #[v0_, .int .i64 r2, .int .i64 r3]) ∧ Kd.R Kd.string 9 w' w.heap.size (fun _ => True) v0_ r1 ∧ Below w.heap.size w w' := by
 have HR0 := aM hr0
 have HC0 := aM hc0
 clear hr0 hc0
 have HB := aM (Below.refl w.heap.size w)
 have H : ((num_Take.f k l0).bind fun bt691 => (if bt691.2.2 = 0 then (sym_TakeTable.j0 k l0 bt691.1 bt691.2.1 (decide (bt691.1 > 32))) else (sym_TakeTable.j0 k l0 bt691.1 bt691.2.1 true))) = some (r1, r2, r3) := h
 clear h
 replace H := Option.bind_eq_some_iff.mp H
 obtain ⟨⟨t691, t692, t693⟩, A20, H⟩ := H
 replace H : (if t693 = 0 then (sym_TakeTable.j0 k l0 t691 t692 (decide (t691 > 32))) else (sym_TakeTable.j0 k l0 t691 t692 true)) = some (r1, r2, r3) := H
 have A2 := aM A20
 clear A20
 have HC3 := aM H
 clear H
 go_enter Try.func62, Try.ntmps62
 go_upto_region 2 with (first | ((with_reducible refine gate_callee (f := 58) rfl ?_); refine goesL_ (some 14) rfl rfl Try.func58 (by kernel_rfl) rfl #[.slice A0 l0.length c0] rfl (by (try simp only [List.map_toArray, List.map_cons, List.map_nil]); first | done | rfl | (simp only [List.length_drop, List.length_take]; rfl)) ?_; (with_reducible refine (num_Take.calls k _ _ l0 t691 t692 t693 _ ?side1 ?side2 A2.out).mono ?_); (case side1 => exact xC HR0.out); (case side2 => exact HC0.out); rintro e w' ⟨rfl, ⟨nd, rfl⟩⟩; refine ⟨_, rfl, ?_⟩))
 (try simp only [xQ])
 go_cut [23] (fun v23 wc => ∃ (kq : Nat) (x23_2 : Bool), v23 = .bool x23_2 ∧ Aside0 (sym_TakeTable.j0 kq l0 t691 t692 x23_2 = some (r1, r2, r3)) ∧ Aside0 (kq ≤ k) ∧ Aside0 (Below w.heap.size w wc))
 case first =>
  have H := HC3.out
  clear HC3
  by_cases c4 : t693 = 0
  ·
   rw [if_pos c4] at H
   have c4b0 : (t693 == 0) = true := beq_iff_eq.mpr c4
   have c4b1 : (t693 != 0) = false := bne_eq_false_iff_eq.mpr c4
   clear c4
   (first | rw [c4b0] | (simp only [i64_w, i32_w]; rw [c4b0]) | skip)
   have H' := aM H
   clear H
   go_wp2
   go_meet
   case rel => exact ⟨_, (decide (t691 > 32)), (by first | rfl | (simp; done) | (simp [*]; done)), H', ⟨by first | omega | exact Nat.le_refl _⟩, ⟨xB HB.out⟩⟩
  ·
   rw [if_neg c4] at H
   have c4b0 : (t693 == 0) = false := beq_eq_false_iff_ne.mpr c4
   have c4b1 : (t693 != 0) = true := bne_iff_ne.mpr c4
   (first | rw [c4b0] | (simp only [i64_w, i32_w]; rw [c4b0]) | skip)
   have H' := aM H
   clear H
   go_wp2
   go_meet
   case rel => exact ⟨_, (true), (by first | rfl | (simp; done) | (simp [*]; done)), H', ⟨by first | omega | exact Nat.le_refl _⟩, ⟨xB HB.out⟩⟩
 case rest =>
  clear HC3
  try clear p2
  try clear c4
  try clear c4b0
  try clear c4b1
  obtain ⟨kq, x23_2, rfl, HA, HJ2, HB⟩ := hcut
  cases kq with
  | zero => exact absurd HA.out (by simp [sym_TakeTable.j0])
  | succ kj2 =>
   have H := HA.out
   clear HA
   simp only [sym_TakeTable.j0] at H
   by_cases c5 : x23_2 = true
   ·
    subst c5
    have H1 : (some (([] : List ByteArray), 0, 2)) = some (r1, r2, r3) := by rw [if_pos rfl] at H; exact H
    clear H
    have H := H1
    clear H1
    simp only [Option.some.injEq, Prod.mk.injEq] at H
    obtain ⟨rfl, rfl, rfl⟩ := H
    go_wp2
    go_ret3
    exact ⟨_, by first | rfl | (simp [errW_none, errW_some] <;> rfl) | (simp [*, errW_none, errW_some] <;> rfl), by first | exact Kd.R_nil _ _ _ _ _ | exact Kd.N_nil _ _ _ _ _ | exact Kd.V_nil _ _ _ _ _ | exact Kd.Q_nil _ _ _ _ _ | exact Kd.S_nil _ _ _ _ _, xB HB.out⟩
   ·
    replace c5 := Bool.eq_false_iff.mpr c5
    subst c5
    have H1 : (sym_TakeTable.l0 kj2 l0 t692 ([] : List ByteArray) t691 0) = some (r1, r2, r3) := by rw [if_neg (show ¬ (false = true) by decide)] at H; exact H
    clear H
    have H := H1
    clear H1
    have H' := aM H
    clear H
    go_wp2
    go_loopg [6, 8, 25] kj2 (fun kq v6 v8 v25 w' => ∃ (x6_2 : Int) (x8_2 : List ByteArray) (x25_2 : Int), v6 = .int .i64 x6_2 ∧ v25 = .int .u64 x25_2 ∧ Aside0 (sym_TakeTable.l0 kq l0 x6_2 x8_2 t691 x25_2 = some (r1, r2, r3)) ∧ Aside0 (kq ≤ kj2) ∧ Aside0 (Kd.R Kd.string 9 w' w.heap.size (fun _ => True) v8 x8_2) ∧ Aside0 (Below w.heap.size w w'))
    case atStart => exact ⟨(t692), (([] : List ByteArray)), (0), (by first | rfl | (simp; done) | (simp [*]; done)), (by first | rfl | (simp; done) | (simp [*]; done)), H', ⟨Nat.le_refl _⟩, ⟨by first | exact Kd.R_nil _ _ _ _ _ | exact Kd.N_nil _ _ _ _ _ | exact Kd.V_nil _ _ _ _ _ | exact Kd.Q_nil _ _ _ _ _ | exact Kd.S_nil _ _ _ _ _⟩, ⟨xB HB.out⟩⟩
    case round =>
     clear H'
     try clear p2
     try clear c4
     try clear c4b0
     try clear c4b1
     try clear c5
     try clear p2
     obtain ⟨x6_2, x8_2, x25_2, rfl, rfl, HA, HK2, HO_8, HB⟩ := hrel
     cases gk with
     | zero => exact absurd HA.out (by simp [sym_TakeTable.l0])
     | succ k2 =>
      have H := HA.out
      clear HA
      simp only [sym_TakeTable.l0] at H
      by_cases c6 : x25_2 < t691
      ·
       rw [if_pos c6] at H
       have c6b0 : decide (x25_2 < t691) = true := decide_eq_true c6
       clear c6
       by_cases c7 : 0 ≤ x6_2
       ·
        rw [if_pos c7] at H
        have c7b0 := eq_true c7
        have c7b1 : decide (0 ≤ x6_2) = true := decide_eq_true c7
        clear c7
        by_cases c8 : x6_2 ≤ (l0.length : Int)
        ·
         rw [if_pos c8] at H
         have c8b0 := eq_true c8
         have c8b1 : decide (x6_2 ≤ (l0.length : Int)) = true := decide_eq_true c8
         clear c8
         obtain ⟨y694, hy694⟩ : ∃ y_ : List Int, y_ = (l0.drop (x6_2 : Int).toNat) := ⟨_, rfl⟩
         replace H : ((num_TakeRow.f k2 y694 8).bind fun bt698 => (if bt698.2.2 = 0 then (if x8_2.length < 8796093022208 then (sym_TakeTable.l0 k2 l0 (wrap64 (x6_2 + bt698.2.1)) (x8_2 ++ [strOfNums bt698.1]) t691 (IntKind.u64.wrap (x25_2 + 1))) else (none)) else (some (([] : List ByteArray), 0, 2)))) = some (r1, r2, r3) := by first | (rw [hy694]; with_reducible exact H) | (have H2_ := (Option.bind_some _ _).symm.trans H; rw [hy694]; with_reducible exact H2_) | (have H2_ := (Option.bind_some _ _).symm.trans H; with_reducible exact H2_) | with_reducible exact H | (rw [hy694]; exact H) | exact H
         have Ny694 := aM hy694
         clear hy694
         replace H := Option.bind_eq_some_iff.mp H
         obtain ⟨⟨t698, t699, t700⟩, A90, H⟩ := H
         replace H : (if t700 = 0 then (if x8_2.length < 8796093022208 then (sym_TakeTable.l0 k2 l0 (wrap64 (x6_2 + t699)) (x8_2 ++ [strOfNums t698]) t691 (IntKind.u64.wrap (x25_2 + 1))) else (none)) else (some (([] : List ByteArray), 0, 2))) = some (r1, r2, r3) := H
         have A9 := aM A90
         clear A90
         by_cases c10 : t700 = 0
         ·
          rw [if_pos c10] at H
          have c10b0 : (t700 == 0) = true := beq_iff_eq.mpr c10
          have c10b1 : (t700 != 0) = false := bne_eq_false_iff_eq.mpr c10
          clear c10
          by_cases c11 : x8_2.length < 8796093022208
          ·
           rw [if_pos c11] at H
           have LMc11 := aM c11
           clear c11
           obtain ⟨y703, hy703⟩ : ∃ y_ : List ByteArray, y_ = (x8_2 ++ [strOfNums t698]) := ⟨_, rfl⟩
           replace H : (sym_TakeTable.l0 k2 l0 (wrap64 (x6_2 + t699)) y703 t691 (IntKind.u64.wrap (x25_2 + 1))) = some (r1, r2, r3) := by first | (rw [hy703]; with_reducible exact H) | (have H2_ := (Option.bind_some _ _).symm.trans H; rw [hy703]; with_reducible exact H2_) | (have H2_ := (Option.bind_some _ _).symm.trans H; with_reducible exact H2_) | with_reducible exact H | (rw [hy703]; exact H) | exact H
           have Ny703 := aM hy703
           clear hy703
           have H' := aM H
           clear H
           have q12 : (x6_2 : Int) ≤ ((l0.length : Int) : Int) := of_decide_eq_true (by first | (with_reducible assumption) | assumption)
           obtain ⟨i012, hi012, _, hsz12, _⟩ := info_parts info5
           have hroom12 : l0.length ≤ c0 := HC0.out
           have hC12 : Kd.C (Kd.int .u8) _ A0 l0.length l0 := HR0.out
           have q012 : (0 : Int) ≤ (x6_2 : Int) := of_decide_eq_true (by first | (with_reducible assumption) | assumption)
           have hcut12 := cut_from (P := Try.prog) 22 5 .i64 Try.underlying22 hi012 1 hsz12 A0 l0.length c0 x6_2 q012 q12
           have hr12 := Kd.C_drop (m := (x6_2 : Int).toNat) (c := c0) hC12 (by omega) hroom12
           obtain ⟨A12, hA12⟩ : ∃ A_z, A_z = (if c0 = (x6_2 : Int).toNat then A0 else (A0 : Option Addr).map (·.add ((x6_2 : Int).toNat * 1))) := ⟨_, rfl⟩
           obtain ⟨c12, hc12⟩ : ∃ c_z, c_z = c0 - (x6_2 : Int).toNat := ⟨_, rfl⟩
           have hy12 : y694.length = l0.length - (x6_2 : Int).toNat := (by rw [Ny694.out, List.length_drop] <;> omega)
           rw [show (l0).drop (x6_2 : Int).toNat = y694 from Ny694.out.symm] at hr12
           replace hr12 : Kd.C (Kd.int .u8) _ A12 y694.length y694 := (by rw [hA12]; exact hr12)
           rw [← hy12, ← hA12, ← hc12] at hcut12
           have HR697 := aM hr12
           have HC697 := aM (show y694.length ≤ c12 from by rw [hy12, hc12]; exact Nat.sub_le_sub_right hroom12 _)
           clear hr12 hC12 hroom12 hi012 hsz12 hc12
           have KY12 := aM hy12
           have KA12 := aM hA12
           clear hy12 hA12
           replace q12 := eq_true q12
           go_wp2_with (first | ((with_reducible refine gate_callee (f := 32) rfl ?_); refine goesL_ (some 31) rfl rfl Try.func32 (by kernel_rfl) rfl #[.slice A12 y694.length c12, .int .i64 8] rfl (by (try simp only [List.map_toArray, List.map_cons, List.map_nil]); first | done | rfl | (simp only [List.length_drop, List.length_take]; rfl)) ?_; (with_reducible refine (num_TakeRow.calls k2 _ _ y694 8 t698 t699 t700 _ ?side1 ?side2 A9.out).mono ?_); (case side1 => exact xC (Kd.C_below HR697.out HB.out)); (case side2 => exact HC697.out); rintro e w13 ⟨v701, rfl, ho0, hb⟩; refine ⟨_, rfl, ?_⟩; have n0_ := aM (Kd.R_below (xR HO_8.out) hb); have n1_ := aM (Kd.R_lower ho0 (below_size (xB HB.out))); have n2_ := aM (below_step (xB HB.out) hb); clear HO_8; clear HB; have HO_8 := n0_; have HO702 := n1_; have HB := n2_; clear n0_ n1_ n2_; (try clear hb); (try clear hb2); (try clear hk); (try clear hi); (try clear ho0); have hcv14 := own_string (P := Try.prog) Try.underlying22 Try.underlying5 Try.underlying9 (Kd.own_of_R HO702.out)) | ((with_reducible refine gate_builtin (b := .append) (xs := #[.tmp 37, .tmp 40]) rfl ?_); at_builtin; refine Kd.R_append Kd.string (w0 := w) w.heap.size rfl (.tmp 37) (.tmp 40) 42 9 (.string ⟨#[]⟩) 16 rfl Try.underlying42 info9 rfl (by decide) (by omega) u8 x8_2 (strOfNums t698) [.string (strOfNums t698)] (fun _ => True) (fun _ => False) rfl rfl ?aP (fun _ hk => hk.elim) ?aF ?aO ?aB ?aS ?aL ?_; (case aP => exact rfl); (case aB => exact (xB HB.out)); (case aF => exact (fun _ _ => trivial)); (case aO => exact (xR HO_8.out)); (case aS => exact (below_size (xB HB.out))); (case aL => have := LMc11.out; omega); intro v704 w15 ho hb hg hat; rw [← Ny703.out] at ho; have n0_ := aM (Kd.R_over' (xR HO702.out) (Kd.R_typed (xR HO_8.out)) (by decide) hg); have n1_ := aM (hb); have n2_ := aM (ho); clear HO702; clear HB; clear HO_8; have HO702 := n0_; have HB := n1_; have HO705 := n2_; clear n0_ n1_ n2_; clear ho hb hg hat))
           go_roundg k2
           case measure => have := HJ2.out; have := HK2.out; omega
           case rel => exact ⟨(wrap64 (x6_2 + t699)), (y703), (IntKind.u64.wrap (x25_2 + 1)), (by first | rfl | (simp; done) | (simp [*]; done)), (by first | rfl | (simp; done) | (simp [*]; done)), H', ⟨by have := HJ2.out; have := HK2.out; omega⟩, ⟨by (with_reducible repeat (first | apply Kd.R_alloc | apply Kd.R_drewN | apply Kd.R_drew)); exact HO705.out⟩, ⟨xB HB.out⟩⟩
          ·
           rw [if_neg c11] at H
           exact absurd H (by simp)
         ·
          rw [if_neg c10] at H
          have c10b0 : (t700 == 0) = false := beq_eq_false_iff_ne.mpr c10
          have c10b1 : (t700 != 0) = true := bne_iff_ne.mpr c10
          simp only [Option.some.injEq, Prod.mk.injEq] at H
          obtain ⟨rfl, rfl, rfl⟩ := H
          have q16 : (x6_2 : Int) ≤ ((l0.length : Int) : Int) := of_decide_eq_true (by first | (with_reducible assumption) | assumption)
          obtain ⟨i016, hi016, _, hsz16, _⟩ := info_parts info5
          have hroom16 : l0.length ≤ c0 := HC0.out
          have hC16 : Kd.C (Kd.int .u8) _ A0 l0.length l0 := HR0.out
          have q016 : (0 : Int) ≤ (x6_2 : Int) := of_decide_eq_true (by first | (with_reducible assumption) | assumption)
          have hcut16 := cut_from (P := Try.prog) 22 5 .i64 Try.underlying22 hi016 1 hsz16 A0 l0.length c0 x6_2 q016 q16
          have hr16 := Kd.C_drop (m := (x6_2 : Int).toNat) (c := c0) hC16 (by omega) hroom16
          obtain ⟨A16, hA16⟩ : ∃ A_z, A_z = (if c0 = (x6_2 : Int).toNat then A0 else (A0 : Option Addr).map (·.add ((x6_2 : Int).toNat * 1))) := ⟨_, rfl⟩
          obtain ⟨c16, hc16⟩ : ∃ c_z, c_z = c0 - (x6_2 : Int).toNat := ⟨_, rfl⟩
          have hy16 : y694.length = l0.length - (x6_2 : Int).toNat := (by rw [Ny694.out, List.length_drop] <;> omega)
          rw [show (l0).drop (x6_2 : Int).toNat = y694 from Ny694.out.symm] at hr16
          replace hr16 : Kd.C (Kd.int .u8) _ A16 y694.length y694 := (by rw [hA16]; exact hr16)
          rw [← hy16, ← hA16, ← hc16] at hcut16
          have HR697 := aM hr16
          have HC697 := aM (show y694.length ≤ c16 from by rw [hy16, hc16]; exact Nat.sub_le_sub_right hroom16 _)
          clear hr16 hC16 hroom16 hi016 hsz16 hc16
          have KY16 := aM hy16
          have KA16 := aM hA16
          clear hy16 hA16
          replace q16 := eq_true q16
          go_wp2_with (first | ((with_reducible refine gate_callee (f := 32) rfl ?_); refine goesL_ (some 31) rfl rfl Try.func32 (by kernel_rfl) rfl #[.slice A16 y694.length c16, .int .i64 8] rfl (by (try simp only [List.map_toArray, List.map_cons, List.map_nil]); first | done | rfl | (simp only [List.length_drop, List.length_take]; rfl)) ?_; (with_reducible refine (num_TakeRow.calls k2 _ _ y694 8 t698 t699 t700 _ ?side1 ?side2 A9.out).mono ?_); (case side1 => exact xC (Kd.C_below HR697.out HB.out)); (case side2 => exact HC697.out); rintro e w17 ⟨v701, rfl, ho0, hb⟩; refine ⟨_, rfl, ?_⟩; have n0_ := aM (Kd.R_below (xR HO_8.out) hb); have n1_ := aM (Kd.R_lower ho0 (below_size (xB HB.out))); have n2_ := aM (below_step (xB HB.out) hb); clear HO_8; clear HB; have HO_8 := n0_; have HO702 := n1_; have HB := n2_; clear n0_ n1_ n2_; (try clear hb); (try clear hb2); (try clear hk); (try clear hi); (try clear ho0)))
          go_ret3
          exact ⟨_, by first | rfl | (simp [errW_none, errW_some] <;> rfl) | (simp [*, errW_none, errW_some] <;> rfl), by first | exact Kd.R_nil _ _ _ _ _ | exact Kd.N_nil _ _ _ _ _ | exact Kd.V_nil _ _ _ _ _ | exact Kd.Q_nil _ _ _ _ _ | exact Kd.S_nil _ _ _ _ _, xB HB.out⟩
        ·
         rw [if_neg c8] at H
         exact absurd H (by simp)
       ·
        rw [if_neg c7] at H
        exact absurd H (by simp)
      ·
       rw [if_neg c6] at H
       have c6b0 : decide (x25_2 < t691) = false := decide_eq_false c6
       clear c6
       replace H := Option.bind_eq_some_iff.mp H
       obtain ⟨t706, A180, H⟩ := H
       replace H : (if t706 = true then (some (x8_2, x6_2, 0)) else (some (([] : List ByteArray), 0, 2))) = some (r1, r2, r3) := H
       have A18 := aM A180
       clear A180
       by_cases c19 : t706 = true
       ·
        subst c19
        have H1 : (some (x8_2, x6_2, 0)) = some (r1, r2, r3) := by rw [if_pos rfl] at H; exact H
        clear H
        have H := H1
        clear H1
        simp only [Option.some.injEq, Prod.mk.injEq] at H
        obtain ⟨rfl, rfl, rfl⟩ := H
        obtain ⟨Ao20, co20, eo20⟩ := Kd.R_slice HO_8.out
        subst eo20
        go_wp2_with (first | ((with_reducible refine gate_callee (f := 46) rfl ?_); refine goesL_ (some 47) rfl rfl Try.func46 (by kernel_rfl) rfl #[.slice Ao20 x8_2.length co20] rfl (by (try simp only [List.map_toArray, List.map_cons, List.map_nil]); first | done | rfl | (simp only [List.length_drop, List.length_take]; rfl)) ?_; (with_reducible refine (sym_Formed.calls _ _ x8_2 true _ ?side1 ?side2 A18.out).mono ?_); (case side1 => exact xC ((Kd.R_reads' HO_8.out).2.2)); (case side2 => exact (Kd.R_reads' HO_8.out).2.1); rintro e w21 ⟨rfl, hb⟩; refine ⟨_, rfl, ?_⟩; have n0_ := aM (Kd.R_below (xR HO_8.out) hb); have n1_ := aM (below_step (xB HB.out) hb); clear HO_8; clear HB; have HO_8 := n0_; have HB := n1_; clear n0_ n1_; (try clear hb); (try clear hb2); (try clear hk); (try clear hi)))
        go_ret3
        exact ⟨_, by first | rfl | (simp [errW_none, errW_some] <;> rfl) | (simp [*, errW_none, errW_some] <;> rfl), by (with_reducible repeat (first | apply Kd.R_alloc | apply Kd.R_drewN | apply Kd.R_drew)); exact HO_8.out, xB HB.out⟩
       ·
        replace c19 := Bool.eq_false_iff.mpr c19
        subst c19
        have H1 : (some (([] : List ByteArray), 0, 2)) = some (r1, r2, r3) := by rw [if_neg (show ¬ (false = true) by decide)] at H; exact H
        clear H
        have H := H1
        clear H1
        simp only [Option.some.injEq, Prod.mk.injEq] at H
        obtain ⟨rfl, rfl, rfl⟩ := H
        obtain ⟨Ao22, co22, eo22⟩ := Kd.R_slice HO_8.out
        subst eo22
        go_wp2_with (first | ((with_reducible refine gate_callee (f := 46) rfl ?_); refine goesL_ (some 47) rfl rfl Try.func46 (by kernel_rfl) rfl #[.slice Ao22 x8_2.length co22] rfl (by (try simp only [List.map_toArray, List.map_cons, List.map_nil]); first | done | rfl | (simp only [List.length_drop, List.length_take]; rfl)) ?_; (with_reducible refine (sym_Formed.calls _ _ x8_2 false _ ?side1 ?side2 A18.out).mono ?_); (case side1 => exact xC ((Kd.R_reads' HO_8.out).2.2)); (case side2 => exact (Kd.R_reads' HO_8.out).2.1); rintro e w23 ⟨rfl, hb⟩; refine ⟨_, rfl, ?_⟩; have n0_ := aM (Kd.R_below (xR HO_8.out) hb); have n1_ := aM (below_step (xB HB.out) hb); clear HO_8; clear HB; have HO_8 := n0_; have HB := n1_; clear n0_ n1_; (try clear hb); (try clear hb2); (try clear hk); (try clear hi)))
        go_ret3
        exact ⟨_, by first | rfl | (simp [errW_none, errW_some] <;> rfl) | (simp [*, errW_none, errW_some] <;> rfl), by first | exact Kd.R_nil _ _ _ _ _ | exact Kd.N_nil _ _ _ _ _ | exact Kd.V_nil _ _ _ _ _ | exact Kd.Q_nil _ _ _ _ _ | exact Kd.S_nil _ _ _ _ _, xB HB.out⟩
def sym_Decode.go (t : List ByteArray) (most : Int) : Nat → List Int → List Int → List Int × Int
 | 0, _, _ => ([], 2)
 | _ + 1, [], out => (out, 0)
 | f + 1, x :: r, out =>
  if x < t.length then (if (out.length : Int) + (rdOf ByteArray.empty t x).size > most then ([], 5) else sym_Decode.go t most f r (out ++ bytesOf (rdOf ByteArray.empty t x)))
  else if x = 255 then (match r with
   | [] => ([], 2)
   | y :: r' => if (out.length : Int) + 1 > most then ([], 5) else sym_Decode.go t most f r' (out ++ bytesOf (strOfNums [y])))
  else ([], 2)
def sym_Decode.f (l0 : List ByteArray) (l1 : List Int) (a2 : Int) : Option (List Int × Int) := (sym_Formed.f l0).bind fun b => if b = true then (if a2 < 0 then some ([], 1) else if (l1.length < 10000000000 ∧ a2 < 9223372036854775808) ∧ (∀ x ∈ l1, 0 ≤ x ∧ x < 256) then some (sym_Decode.go l0 a2 (l1.length + 1) l1 []) else none) else some ([], 1)
set_option maxHeartbeats 8000000 in
set_option maxRecDepth 100000 in
theorem sym_Decode.calls (A0 : Option Addr) (c0 : Nat) (l0 : List ByteArray) (A1 : Option Addr) (c1 : Nat) (l1 : List Int) (a2 : Int) (r1 : List Int) (r2 : Int) (w : World) (hr0 : Kd.C Kd.string w A0 l0.length l0) (hc0 : l0.length ≤ c0) (hr1 : Kd.C (Kd.int .u8) w A1 l1.length l1) (hc1 : l1.length ≤ c1) (h : sym_Decode.f l0 l1 a2 = some (r1, r2)) :
  Calls Try.prog 63 #[.slice A0 l0.length c0, .slice A1 l1.length c1, .int .i64 a2] w fun e w' => ∃ v0_ : Value, e = .returned (.tuple #[v0_, .int .i64 r2]) ∧ Kd.R (Kd.int .u8) 5 w' w.heap.size (fun _ => True) v0_ r1 ∧ Below w.heap.size w w' := by
 have HR0 := aM hr0
 have HC0 := aM hc0
 have HR1 := aM hr1
 have HC1 := aM hc1
 clear hr0 hc0 hr1 hc1
 have HB := aM (Below.refl w.heap.size w)
 unfold sym_Decode.f at h
 rw [Option.bind_eq_some_iff] at h
 obtain ⟨t, ht, h⟩ := h
 have A3 := aM ht
 have hfo : sym_Formed.f l0 = some (decide (l0.length ≤ 32) && decide (sym_Formed.ok l0)) := rfl
 rw [hfo] at ht
 have HTT := aM (Option.some.inj ht)
 clear ht hfo
 cases t with
 | false =>
  rw [if_neg (by simp)] at h
  have he := Option.some.inj h
  injection he with h1 h2
  subst h1
  subst h2
  clear h
  go_enter Try.func63, Try.ntmps63
  go_wp2_with (first | (go_at_call 46; (with_reducible refine (sym_Formed.calls _ _ l0 false _ HR0.out HC0.out A3.out).mono ?_); rintro e w1 ⟨rfl, hb1⟩; have HB1 := aM hb1; clear hb1))
  go_ret2
  exact ⟨_, rfl, Kd.R_nil _ _ _ _ _, HB1.out⟩
 | true =>
  rw [if_pos rfl] at h
  by_cases hneg : a2 < 0
  ·
   rw [if_pos hneg] at h
   have d17 : decide (a2 < 0) = true := decide_eq_true hneg
   have he := Option.some.inj h
   injection he with h1 h2
   subst h1
   subst h2
   clear h hneg
   go_enter Try.func63, Try.ntmps63
   go_wp2_with (first | (go_at_call 46; (with_reducible refine (sym_Formed.calls _ _ l0 true _ HR0.out HC0.out A3.out).mono ?_); rintro e w1 ⟨rfl, hb1⟩; have HB1 := aM hb1; clear hb1))
   go_ret2
   exact ⟨_, rfl, Kd.R_nil _ _ _ _ _, HB1.out⟩
  ·
   rw [if_neg hneg] at h
   split at h
   case isFalse => exact absurd h (by simp)
   case isTrue hlim =>
   have d17 : decide (a2 < 0) = false := decide_eq_false hneg
   have HPOS : Aside0 (0 ≤ a2) := ⟨by omega⟩
   have HLIM := aM hlim.1.1
   have HA2 := aM hlim.1.2
   have HBY := aM hlim.2
   have HV := aM (Option.some.inj h)
   have HOK : Aside0 (l0.length ≤ 32 ∧ sym_Formed.ok l0) := ⟨by have := HTT.out; simpa using this⟩
   clear h hneg hlim
   obtain ⟨i05, hi05, _, hsz5, _⟩ := info_parts info5
   have HI5 := aM hi05
   have HSZ5 := aM hsz5
   clear hi05 hsz5
   go_enter Try.func63, Try.ntmps63
   go_wp2_with (first | (go_at_call 46; (with_reducible refine (sym_Formed.calls _ _ l0 true _ HR0.out HC0.out A3.out).mono ?_); rintro e w1 ⟨rfl, hb1⟩; have HB1 := aM hb1; clear hb1))
   go_loopg [8, 9] (l1.length + 1) (fun kq v8 v9 w' => ∃ (rest out : List Int) (A : Option Addr) (c : Nat), v9 = .slice A rest.length c ∧ Aside0 (rest.length < kq ∧ rest.length ≤ l1.length ∧ (out.length : Int) ≤ a2 ∧ out.length + 8 * rest.length ≤ 8 * l1.length) ∧ Aside0 (sym_Decode.go l0 a2 kq rest out = (r1, r2)) ∧ Aside0 (∀ x ∈ rest, 0 ≤ x ∧ x < 256) ∧ Aside0 (Kd.C (Kd.int .u8) w A rest.length rest ∧ rest.length ≤ c) ∧ Aside0 (Kd.R (Kd.int .u8) 5 w' w.heap.size (fun _ => True) v8 out) ∧ Aside0 (Below w.heap.size w w'))
   case atStart => exact ⟨l1, [], A1, c1, rfl, ⟨Nat.lt_succ_self _, Nat.le_refl _, HPOS.out, by simp⟩, HV, HBY, ⟨HR1.out, HC1.out⟩, ⟨Kd.R_nil _ _ _ _ _⟩, HB1⟩
   case round =>
    clear HB HB1 HV HBY
    obtain ⟨rest, out, A, c, rfl, HN, HG, HBY, HR, HO, HB⟩ := hrel
    obtain ⟨A6, c6, e6⟩ := Kd.R_slice HO.out
    subst e6
    cases gk with
    | zero => exact absurd HN.out.1 (by omega)
    | succ k1 =>
    rcases hre : rest with _ | ⟨x, r0⟩
    ·
     subst hre
     have d22 : decide ((0 : Int) < (([] : List Int).length : Int)) = false := rfl
     have he := HG.out
     injection he with h1 h2
     subst h1
     subst h2
     clear HG
     go_wp2
     go_ret2
     exact ⟨_, rfl, HO.out, HB.out⟩
    ·
     have HRE := aM hre
     rw [← hre]
     have hl1 : rest.length = r0.length + 1 := by rw [hre]; rfl
     have HL1 := aM hl1
     have d22 : decide ((0 : Int) < (rest.length : Int)) = true := decide_eq_true (by omega)
     have d22n : decide (0 < rest.length) = true := decide_eq_true (by omega)
     obtain ⟨ad, hA, hx⟩ := Kd.at_int (Kd.C_below HR.out.1 HB.out) 0 (Int.le_refl 0) (by omega)
     subst hA
     have hx0 : rd rest 0 = x := by rw [hre]; rfl
     rw [hx0] at hx
     have hx1 : wr.cell? ad = some (.int .u8 x) := hx
     have HBX := aM (HBY.out x (by rw [hre]; simp))
     obtain ⟨A2, c2, hcut2, hr2, hcc2⟩ := cut_nums_from (P := Try.prog) .u8 22 5 Try.underlying22 HI5.out HSZ5.out HR.out.1 HR.out.2 1 (by omega) (by omega)
     have hd1 : rest.drop (1 : Int).toNat = r0 := by rw [hre]; rfl
     rw [hd1] at hcut2 hr2 hcc2
     have HR2 : Aside0 (Kd.C (Kd.int .u8) w A2 r0.length r0 ∧ r0.length ≤ c2) := ⟨hr2, hcc2⟩
     have q0 : ((0 : Int) < (rest.length : Int)) = True := eq_true (by omega)
     have q0n : (0 < rest.length) = True := eq_true (by omega)
     clear hre hl1 hx hx0 hr2 hcc2 hd1
     obtain ⟨xx, hxx⟩ : ∃ z, wrap64 x = z := ⟨_, rfl⟩
     have HXX : Aside0 (xx = x) := ⟨by rw [← hxx]; have := HBX.out; unfold wrap64; omega⟩
     have hxxw : IntKind.i64.wrap x = xx := (i64_w _).trans hxx
     go_upto_block 2 with (fail)
     have HG2 : Aside0 ((if x < l0.length then (if (out.length : Int) + (rdOf ByteArray.empty l0 x).size > a2 then (([] : List Int), (5 : Int)) else sym_Decode.go l0 a2 k1 r0 (out ++ bytesOf (rdOf ByteArray.empty l0 x)))
      else if x = 255 then (match (generalizing := false) r0 with
       | [] => ([], 2)
       | y :: r' => if (out.length : Int) + 1 > a2 then ([], 5) else sym_Decode.go l0 a2 k1 r' (out ++ bytesOf (strOfNums [y])))
      else ([], 2)) = (r1, r2)) := ⟨by
      have he := HG.out
      rw [HRE.out] at he
      exact he⟩
     clear HG
     have HG := HG2
     clear HG2
     go_cut [9, 10, 27, 38] from 28 to 50 (fun v9 v10 v27 v38 w' => ∃ (s : ByteArray) (r' : List Int) (A' : Option Addr) (c' : Nat), v9 = .slice A' r'.length c' ∧ v10 = .string s ∧ Aside0 (s.size ≤ 8 ∧ r'.length < rest.length ∧ out.length + s.size + 8 * r'.length ≤ 8 * l1.length) ∧ Aside0 ((if (out.length : Int) + s.size > a2 then (([] : List Int), (5 : Int)) else sym_Decode.go l0 a2 k1 r' (out ++ bytesOf s)) = (r1, r2)) ∧ Aside0 (∀ x ∈ r', 0 ≤ x ∧ x < 256) ∧ Aside0 (Kd.C (Kd.int .u8) w A' r'.length r' ∧ r'.length ≤ c') ∧ Aside0 (Kd.R (Kd.int .u8) 5 w' w.heap.size (fun _ => True) (.slice A6 out.length c6) out) ∧ Aside0 (Below w.heap.size w w'))
     case first =>
      by_cases hxl : x < (l0.length : Int)
      ·
       have d31 : decide (xx < (l0.length : Int)) = true := decide_eq_true (by have := HXX.out; omega)
       have p1 : 0 ≤ xx := by have := HXX.out; have := HBX.out; omega
       have q1 : xx < (l0.length : Int) := by have := HXX.out; omega
       obtain ⟨a0, hA, hs⟩ := Kd.at_string (Kd.C_below HR0.out HB.out) xx p1 q1
       subst hA
       obtain ⟨s, hse⟩ : ∃ s, s = rdOf ByteArray.empty l0 xx := ⟨_, rfl⟩
       rw [← hse] at hs
       have HSE : Aside0 (s = rdOf ByteArray.empty l0 x) := ⟨by rw [hse, HXX.out]⟩
       have HS8 : Aside0 (s.size ≤ 8) := ⟨by
        have hm : s ∈ l0 := by
         rw [hse]
         unfold rdOf
         rw [List.getD_eq_getElem?_getD, List.getElem?_eq_getElem (by omega)]
         exact List.getElem_mem _
        exact (HOK.out.2.1 s hm).2⟩
       have HGE : Aside0 ((if (out.length : Int) + s.size > a2 then (([] : List Int), (5 : Int)) else sym_Decode.go l0 a2 k1 r0 (out ++ bytesOf s)) = (r1, r2)) := ⟨by
        have he := HG.out
        rw [if_pos hxl, ← HSE.out] at he
        exact he⟩
       clear hse hxl
       replace p1 := eq_true p1
       replace q1 := eq_true q1
       go_wp2
       have HO1 := aM (Kd.R_drew HO.out)
       have HB1 := aM (below_drew1 HB.out)
       clear HO HB
       refine start_ (n := 8) (S := fun w' => w'.cell? (a0.add xx.toNat) = some (.string s)) (ds := []) b70_ (by kernel_rfl) rfl rfl (hs) (fun hHeld => ?_)
       generalize wr.drew = w24 at HO1 HB1 hHeld ⊢
       refine pure_ (i := 0) (N := some 32) (v := ?_) (a' := ?_) b71_ rfl rfl (by kernel_rfl) (fun _ _ _ h => h) (Or.inl ⟨by rfl, ?_⟩) ?_ ?_; rotate_left; (· intro w'; go_simp; with_reducible rfl); rotate_left; (· simp only [xQ, i64_w, i32_w]; rfl)
       refine pure_ (i := 1) (N := some 33) (v := ?_) (a' := ?_) b72_ rfl rfl (by kernel_rfl) (fun _ _ _ h => h) (Or.inl ⟨by rfl, ?_⟩) ?_ ?_; rotate_left; (· intro w'; go_simp; with_reducible rfl); rotate_left; (· simp only [xQ, i64_w, i32_w]; rfl)
       refine pure_ (i := 2) (N := some 34) (v := ?_) (a' := ?_) b73_ rfl rfl (by kernel_rfl) (fun _ _ _ h => h) (Or.inl ⟨by rfl, ?_⟩) ?_ ?_; rotate_left; (· intro w'; go_simp; with_reducible rfl); rotate_left; (· simp only [xQ, i64_w, i32_w]; rfl)
       refine pure_ (i := 4) (N := some 36) (v := ?_) (a' := ?_) b74_ rfl rfl (by kernel_rfl) (fun _ _ _ h => h) (Or.inl ⟨by rfl, ?_⟩) ?_ ?_; rotate_left; (· intro w'; go_simp; with_reducible rfl); rotate_left; (· simp only [xQ, i64_w, i32_w]; rfl)
       refine pure_ (i := 5) (N := some 37) (v := ?_) (a' := ?_) b75_ rfl rfl (by kernel_rfl) (fun _ _ _ h => h) (Or.inl ⟨by rfl, ?_⟩) ?_ ?_; rotate_left; (· intro w'; go_simp; with_reducible rfl); rotate_left; (· simp only [xQ, i64_w, i32_w]; rfl)
       refine take_ (i := 3) (N := some 35) (v := ?_) (a' := ?_) b76_ rfl rfl (by kernel_rfl) (fun _ _ _ h => h) (Or.inl ⟨by rfl, ?_⟩) hHeld ?_ ?_
       rotate_left
       ·
        intro w' s0
        go_simp
        with_reducible rfl
       rotate_left
       ·
        simp only [xQ, i64_w, i32_w]
        rfl
       refine pure_ (i := 6) (N := some 10) (v := ?_) (a' := ?_) b77_ rfl rfl (by kernel_rfl) (fun _ _ _ h => h) (Or.inl ⟨by rfl, ?_⟩) ?_ ?_; rotate_left; (· intro w'; go_simp; with_reducible rfl); rotate_left; (· simp only [xQ, i64_w, i32_w]; rfl)
       refine pure_ (i := 7) (N := some 9) (v := ?_) (a' := ?_) b78_ rfl rfl (by kernel_rfl) (fun _ _ _ h => h) (Or.inl ⟨by rfl, ?_⟩) ?_ ?_; rotate_left; (· intro w'; go_simp; with_reducible rfl); rotate_left; (· simp only [xQ, i64_w, i32_w]; rfl)
       refine done_ (by kernel_rfl) ?_
       go_wp2
       go_meet
       case rel => exact ⟨s, r0, A2, c2, rfl, rfl, ⟨by have := HS8.out; have := HL1.out; have := HN.out; omega⟩, HGE, ⟨fun y hy => HBY.out y (by rw [HRE.out]; simp [hy])⟩, HR2, HO1, HB1⟩
      ·
       have d31 : decide (xx < (l0.length : Int)) = false := decide_eq_false (by have := HXX.out; omega)
       have HXL := aM hxl
       clear hxl
       by_cases hx255 : x = 255
       ·
        have d40 : (xx == 255) = true := beq_iff_eq.mpr (by have := HXX.out; omega)
        rcases hr0 : r0 with _ | ⟨y, r3⟩
        ·
         have hl : rest.length = 1 := by rw [HL1.out, hr0]; rfl
         have d44 : decide ((1 : Int) < (rest.length : Int)) = false := decide_eq_false (by omega)
         have d44n : decide (1 < rest.length) = false := decide_eq_false (by omega)
         have HE : Aside0 ((([] : List Int), (2 : Int)) = (r1, r2)) := ⟨by
          have he := HG.out
          rw [if_neg HXL.out, if_pos hx255, hr0] at he
          exact he⟩
         clear hl hr0 hx255
         have he := HE.out
         injection he with h1 h2
         subst h1
         subst h2
         clear HE HG
         go_wp2
         go_ret2
         exact ⟨_, rfl, Kd.R_nil _ _ _ _ _, HB.out⟩
        ·
         have hl : rest.length = r3.length + 2 := by rw [HL1.out, hr0]; rfl
         have HL := aM hl
         have d44 : decide ((1 : Int) < (rest.length : Int)) = true := decide_eq_true (by omega)
         have d44n : decide (1 < rest.length) = true := decide_eq_true (by omega)
         have hre2 : rest = x :: y :: r3 := by rw [HRE.out, hr0]
         obtain ⟨A12, c12, hcut12, hr12, hcc12⟩ := cut_nums_mid (P := Try.prog) .u8 22 5 Try.underlying22 HI5.out HSZ5.out HR.out.1 HR.out.2 1 2 (by omega) (by omega) (by omega)
         have hd12 : (rest.take (2 : Int).toNat).drop (1 : Int).toNat = [y] := by rw [hre2]; rfl
         rw [hd12] at hcut12 hr12 hcc12
         obtain ⟨A13, c13, hcut13, hr13, hcc13⟩ := cut_nums_from (P := Try.prog) .u8 22 5 Try.underlying22 HI5.out HSZ5.out HR.out.1 HR.out.2 2 (by omega) (by omega)
         have hd13 : rest.drop (2 : Int).toNat = r3 := by rw [hre2]; rfl
         rw [hd13] at hcut13 hr13 hcc13
         have HR13 : Aside0 (Kd.C (Kd.int .u8) w A13 r3.length r3 ∧ r3.length ≤ c13) := ⟨hr13, hcc13⟩
         have hcv := Kd.C_string (P := Try.prog) (A := A12) (c := c12) Try.underlying22 Try.underlying5 Try.underlying9 (Kd.C_below hr12 (below_drew1 HB.out))
         have HSZ1 : Aside0 ((strOfNums [y]).size = 1) := ⟨by rw [strOfNums_size]; rfl⟩
         obtain ⟨s, hse⟩ : ∃ s, s = strOfNums [y] := ⟨_, rfl⟩
         rw [← hse] at hcv HSZ1
         have hcv1 : (convert 22 9 (.slice A12 1 c12)).run Try.prog wr.drew = .ok (.string s) wr.drew := hcv
         clear hcv
         have HGE : Aside0 ((if (out.length : Int) + s.size > a2 then (([] : List Int), (5 : Int)) else sym_Decode.go l0 a2 k1 r3 (out ++ bytesOf s)) = (r1, r2)) := ⟨by
          have he := HG.out
          rw [if_neg HXL.out, if_pos hx255, hr0] at he
          rw [HSZ1.out, hse]
          exact he⟩
         have HBY3 : Aside0 (∀ z ∈ r3, 0 ≤ z ∧ z < 256) := ⟨fun z hz => HBY.out z (by rw [hre2]; simp [hz])⟩
         clear hl hr0 hx255 hre2 hr12 hcc12 hd12 hr13 hcc13 hd13 hse
         go_wp2
         have HO1 := aM (Kd.R_drew HO.out)
         have HB1 := aM (below_drew1 HB.out)
         clear HO HB
         refine start_ (n := 7) (S := fun w' => (convert 22 9 (.slice A12 1 c12)).run Try.prog w' = .ok (.string s) w') (ds := []) #[false, false, false, false, false, false, false] (by kernel_rfl) rfl rfl (hcv1) (fun hHeld => ?_)
         generalize wr.drew = w24 at HO1 HB1 hHeld ⊢
         refine pure_ (i := 0) (N := some 46) (v := ?_) (a' := ?_) #[true, false, false, false, false, false, false] rfl rfl (by kernel_rfl) (fun _ _ _ h => h) (Or.inl ⟨by rfl, ?_⟩) ?_ ?_; rotate_left; (· intro w'; go_simp; with_reducible rfl); rotate_left; (· simp only [xQ, i64_w, i32_w]; rfl)
         refine pure_ (i := 1) (N := some 47) (v := ?_) (a' := ?_) #[true, true, false, false, false, false, false] rfl rfl (by kernel_rfl) (fun _ _ _ h => h) (Or.inl ⟨by rfl, ?_⟩) ?_ ?_; rotate_left; (· intro w'; go_simp; with_reducible rfl); rotate_left; (· simp only [xQ, i64_w, i32_w]; rfl)
         refine pure_ (i := 3) (N := some 49) (v := ?_) (a' := ?_) #[true, true, false, true, false, false, false] rfl rfl (by kernel_rfl) (fun _ _ _ h => h) (Or.inl ⟨by rfl, ?_⟩) ?_ ?_; rotate_left; (· intro w'; go_simp; with_reducible rfl); rotate_left; (· simp only [xQ, i64_w, i32_w]; rfl)
         refine pure_ (i := 4) (N := some 50) (v := ?_) (a' := ?_) #[true, true, false, true, true, false, false] rfl rfl (by kernel_rfl) (fun _ _ _ h => h) (Or.inl ⟨by rfl, ?_⟩) ?_ ?_; rotate_left; (· intro w'; go_simp; with_reducible rfl); rotate_left; (· simp only [xQ, i64_w, i32_w]; rfl)
         refine one_ (i := 2) (N := some 48) #[true, true, true, true, true, false, false] rfl rfl (by kernel_rfl) (by decide) (fun K hK => ?_)
         refine event_step (by rfl) (v := .string s) (w1 := w24) ?hr ?hk
         (case hr => go_simp)
         refine hK.out _ _ (hHeld) (fun hHeld => ?_)
         clear hK K
         refine norm_ (a' := ?_) ?_ ?_
         rotate_left
         ·
          show Act.put _ (some 48) _ = _
          simp only [xQ, i64_w, i32_w]
          rfl
         refine pure_ (i := 5) (N := some 10) (v := ?_) (a' := ?_) #[true, true, true, true, true, true, false] rfl rfl (by kernel_rfl) (fun _ _ _ h => h) (Or.inl ⟨by rfl, ?_⟩) ?_ ?_; rotate_left; (· intro w'; go_simp; with_reducible rfl); rotate_left; (· simp only [xQ, i64_w, i32_w]; rfl)
         refine pure_ (i := 6) (N := some 9) (v := ?_) (a' := ?_) #[true, true, true, true, true, true, true] rfl rfl (by kernel_rfl) (fun _ _ _ h => h) (Or.inl ⟨by rfl, ?_⟩) ?_ ?_; rotate_left; (· intro w'; go_simp; with_reducible rfl); rotate_left; (· simp only [xQ, i64_w, i32_w]; rfl)
         refine done_ (by kernel_rfl) ?_
         go_wp2
         go_meet
         case rel => exact ⟨s, r3, A13, c13, rfl, rfl, ⟨by have := HSZ1.out; have := HL.out; have := HN.out; omega⟩, HGE, HBY3, HR13, HO1, HB1⟩
       ·
        have d40 : (xx == 255) = false := beq_eq_false_iff_ne.mpr (by have := HXX.out; omega)
        have HE : Aside0 ((([] : List Int), (2 : Int)) = (r1, r2)) := ⟨by
         have he := HG.out
         rw [if_neg HXL.out, if_neg hx255] at he
         exact he⟩
        clear hx255
        have he := HE.out
        injection he with h1 h2
        subst h1
        subst h2
        clear HE HG
        go_wp2
        go_ret2
        exact ⟨_, rfl, Kd.R_nil _ _ _ _ _, HB.out⟩
     case rest =>
      clear HO HB HR2 HR HG
      obtain ⟨s, r4, A4, c4, rfl, rfl, HSN, HG, HBY4, HR, HO, HB⟩ := hcut
      obtain ⟨ns, hns⟩ : ∃ z, wrap64 ((out.length : Int) + (s.size : Int)) = z := ⟨_, rfl⟩
      have HNS : Aside0 (ns = out.length + s.size) := ⟨by rw [← hns]; have := HSN.out; have := HLIM.out; have := HN.out; unfold wrap64; omega⟩
      have hnsw : IntKind.i64.wrap ((out.length : Int) + (s.size : Int)) = ns := (i64_w _).trans hns
      by_cases hlong : a2 < ns
      ·
       have d57 : decide (a2 < ns) = true := decide_eq_true hlong
       have HE : Aside0 ((([] : List Int), (5 : Int)) = (r1, r2)) := ⟨by
        have he := HG.out
        rw [if_pos (by have := HNS.out; omega)] at he
        exact he⟩
       clear hlong
       have he := HE.out
       injection he with h1 h2
       subst h1
       subst h2
       clear HE HG
       go_wp2
       go_ret2
       exact ⟨_, rfl, Kd.R_nil _ _ _ _ _, HB.out⟩
      ·
       have d57 : decide (a2 < ns) = false := decide_eq_false hlong
       have HNL : Aside0 ((out.length : Int) + s.size ≤ a2) := ⟨by have := HNS.out; omega⟩
       clear hlong
       go_wp2_with (first | (at_builtin; refine print_append_str (w0 := w) w.heap.size rfl (.tmp 58) _ 22 9 5 rfl Try.underlying22 Try.underlying9 info5 (.slice A6 out.length c6) out s rfl rfl ?aO ?aB ?aS ?aL ?_; (case aB => exact HB.out); (case aO => exact (Kd.own_of_R HO.out)); (case aS => exact below_size HB.out); (case aL => have := HSN.out; have := HLIM.out; have := HN.out; omega); intro v60 w60 ho0 hb hg; have ho := Kd.R_of_own (h1 := fun _ => rfl) (ok := fun _ => True) ho0 (fun _ _ => trivial); clear ho0; change Kd.R (Kd.int .u8) 5 w60 w.heap.size (fun _ => True) v60 (out ++ bytesOf s) at ho; have HB2 := aM hb; have HO2 := aM ho; clear hb ho hg))
       go_roundg k1
       case measure => omega
       case rel =>
        have hsn := HSN.out
        have hn := HN.out
        have hnl := HNL.out
        have hbl := bytesOf_length s
        refine ⟨r4, out ++ bytesOf s, A4, c4, rfl, ⟨by rw [List.length_append]; omega⟩, ⟨?_⟩, HBY4, HR, HO2, HB2⟩
        have he := HG.out
        rw [if_neg (by omega)] at he
        exact he
end Go.Proofs.Ythaifibhflfpkaa.Q
end
section
namespace Go.Proofs.Ythaifibhflfpkaa.Q
open Go.RowKit Go.Proofs.YthaifibhflfpkaaW.PrintWords Go.Proofs.YthaifibhflfpkaaW.PrintLast Go.Proofs.YthaifibhflfpkaaW.PrintMore Go.Proofs.YthaifibhflfpkaaX
namespace Law
theorem str_bytesOf (s : ByteArray) : strOfNums (bytesOf s) = s := by
  apply ba_ext
  unfold strOfNums bytesOf
  simp [List.map_map]
  conv => rhs; rw [← List.map_id s.data.toList]
  refine List.map_congr_left fun x _ => ?_
  simp
theorem rowsB_cons (s : ByteArray) (t : List ByteArray) : rowsB (s :: t) = rowB (bytesOf s) ++ rowsB t := by
  unfold rowsB
  rw [List.flatMap_cons]
theorem take_rows (t : List ByteArray) (h : okT t) (X rest : List Int) (hX : X.length < 140737488350000) : ∀ (r d : List ByteArray) (pre : List Int), X = pre ++ (rowsB r ++ rest) → t = d ++ r → Ev (fun k => sym_TakeTable.l0 k X (pre.length : Int) d (t.length : Int) (d.length : Int)) (t, ((X.length - rest.length : Nat) : Int), 0)
  | [], d, pre, hx, ht => by
    rw [List.append_nil] at ht
    subst ht
    have hL : X.length = pre.length + rest.length := by rw [hx]; simp [rowsB]
    refine Ev.step (fun k => by rw [sym_TakeTable.l0]) ?_
    refine Ev.neg (by omega) (Ev.get (okT_f h) (Ev.pos rfl ?_))
    rw [show X.length - rest.length = pre.length by omega]
    exact Ev.now _
  | s :: r, d, pre, hx, ht => by
    have h32 := h.1
    have hL : t.length = d.length + (r.length + 1) := by rw [ht]; simp
    have hs := okT_size h s (by rw [ht]; simp)
    rw [rowsB_cons] at hx
    have ih := take_rows t h X rest hX r (d ++ [s]) (pre ++ rowB (bytesOf s)) (by rw [hx]; simp) (by rw [ht]; simp)
    have hXl : X.length = pre.length + ((rowB (bytesOf s)).length + (rowsB r).length + rest.length) := by rw [hx]; simp; omega
    have hrl : (rowB (bytesOf s)).length ≥ s.size := by
      unfold rowB
      rw [List.length_append, bytesOf_length]
      omega
    have htk := takeRow (bytesOf s) (rowsB r ++ rest) 8 (by rw [bytesOf_length]; omega) (by decide) (by rw [bytesOf_length, List.length_append]; omega)
    have hdrop : X.drop pre.length = rowB (bytesOf s) ++ (rowsB r ++ rest) := by rw [hx, List.drop_left' rfl]; simp
    have w1 := Lib.hid (w64_nat ((pre.length : Int) + ((rowB (bytesOf s)).length : Int)) (pre.length + (rowB (bytesOf s)).length) (by simp) (by omega))
    have w2 : Hid (IntKind.u64.wrap ((d.length : Int) + 1) = ((d.length + 1 : Nat) : Int)) := Lib.hid (by rw [show (d.length : Int) + 1 = ((d.length + 1 : Nat) : Int) by simp]; exact wrapu _ (by omega))
    refine Ev.step (fun k => by rw [sym_TakeTable.l0, Int.toNat_natCast, hdrop, w2.out]) ?_
    refine Ev.pos (by omega) (Ev.pos (by omega) (Ev.pos (by omega) (Ev.bind htk (Ev.pos rfl (Ev.pos (by omega) ?_)))))
    show Ev (fun k => sym_TakeTable.l0 k X (wrap64 ((pre.length : Int) + ((rowB (bytesOf s)).length : Int))) (d ++ [strOfNums (bytesOf s)]) (t.length : Int) ((d.length + 1 : Nat) : Int)) _
    rw [w1.out, str_bytesOf]
    rw [List.length_append, List.length_append] at ih
    exact ih
theorem takeTable (t : List ByteArray) (h : okT t) (rest : List Int) (hr : rest.length < 140737488340000) : Ev (fun k => sym_TakeTable.f k (tabB t ++ rest)) (t, ((tabB t).length : Int), 0) := by
  have h32 := h.1
  have hsz := okT_size h
  have htl := tabB_length t hsz h32
  obtain ⟨X, hX⟩ : ∃ X, X = tabB t ++ rest := ⟨_, rfl⟩
  have hXl : X.length = (tabB t).length + rest.length := by rw [hX, List.length_append]
  have eX : X = numB t.length ++ (rowsB t ++ rest) := by rw [hX, tabB, List.append_assoc]
  have htk := take t.length (by omega) (rowsB t ++ rest) (by
    have : X.length = (numB t.length).length + (rowsB t ++ rest).length := by rw [eX, List.length_append]
    omega)
  have hrows := take_rows t h X rest (by omega) t [] (numB t.length) eX rfl
  rw [show X.length - rest.length = (tabB t).length by omega] at hrows
  rw [← hX]
  rw [← eX] at htk
  unfold sym_TakeTable.f
  refine Ev.bind htk (Ev.pos rfl ?_)
  show Ev (fun k => sym_TakeTable.j0 k X ((t.length : Nat) : Int) ((numB t.length).length : Int) (decide (((t.length : Nat) : Int) > 32))) _
  rw [decide_eq_false (by omega)]
  refine Ev.step (fun k => by rw [sym_TakeTable.j0]) ?_
  refine Ev.neg (by decide) ?_
  exact hrows
theorem decode_go (t : List ByteArray) (h : okT t) (most : Nat) : ∀ (F : Nat) (u out : List Int) (f : Nat), (∀ x ∈ u, 0 ≤ x ∧ x < 256) → u.length ≤ F → out.length + u.length ≤ most → (sym_Encode.enc t F (strOfNums u)).length < f → sym_Decode.go t most f (sym_Encode.enc t F (strOfNums u)) out = (out ++ u, 0)
  | 0, u, out, 0, _, _, _, hf => absurd hf (by omega)
  | 0, u, out, f + 1, hu, hF, hm, hf => by
    have : u = [] := List.eq_nil_of_length_eq_zero (by omega)
    subst this
    rw [List.append_nil]
    rfl
  | F + 1, u, out, 0, _, _, _, hf => absurd hf (by omega)
  | F + 1, u, out, f + 1, hu, hF, hm, hf => by
    have h32 := h.1
    have hsu := strOfNums_size u
    by_cases h0 : u.length = 0
    · have : u = [] := List.eq_nil_of_length_eq_zero h0
      subst this
      rw [sym_Encode.enc, if_pos (by rw [strOfNums_size]; rfl), sym_Decode.go, List.append_nil]
    · have hne : ¬ (strOfNums u).size = 0 := by rw [hsu]; exact h0
      rw [sym_Encode.enc, if_neg hne, hsu] at hf ⊢
      cases hh : sym_Encode.hit t (strOfNums u) (min 8 u.length) with
      | none =>
        rw [hh] at hf
        simp only [List.length_cons] at hf ⊢
        obtain ⟨y, r, rfl⟩ : ∃ y r, u = y :: r := by
          cases u with
          | nil => exact absurd rfl h0
          | cons y r => exact ⟨y, r, rfl⟩
        have hy := hu y (by simp)
        have e1 : (strOfNums (y :: r)).extract 1 (y :: r).length = strOfNums r := by
          rw [← hsu, ext_drop]
          rfl
        have e2 : bt (strOfNums (y :: r)) 0 = y := by
          rw [← rd_bytesOf, bytesOf_str _ hu]
          rfl
        rw [List.length_cons] at hF hm
        rw [e1] at hf
        rw [e1, e2, sym_Decode.go, if_neg (by omega), if_pos rfl, if_neg (by omega), bytesOf_str [y] (by intro x hx; rw [List.mem_singleton] at hx; subst hx; exact hy)]
        rw [decode_go t h most F r (out ++ [y]) f (fun x hx => hu x (by simp [hx])) (by omega) (by rw [List.length_append, List.length_singleton]; omega) (by omega)]
        simp
      | some p =>
        obtain ⟨c, n⟩ := p
        rw [hh] at hf
        simp only [List.length_cons] at hf ⊢
        obtain ⟨hn1, hn2, q, hq, rfl, hqe⟩ := hit_is _ _ _ _ hh
        have hqt : t[q] = strOfNums (u.take n) := by rw [← ext_take]; exact ba_ext hqe
        have hq256 : (q : Int) % 256 = (q : Int) := by omega
        have e1 : (strOfNums u).extract n u.length = strOfNums (u.drop n) := by rw [← hsu, ext_drop]
        rw [e1] at hf
        rw [e1, hq256, sym_Decode.go.eq_def]
        simp only
        rw [if_pos (by omega), rdOf_at t q hq, hqt, strOfNums_size, List.length_take, if_neg (by omega), bytesOf_str _ (fun x hx => hu x (List.mem_of_mem_take hx))]
        rw [decode_go t h most F (u.drop n) (out ++ u.take n) f (fun x hx => hu x (List.mem_of_mem_drop hx)) (by rw [List.length_drop]; omega) (by rw [List.length_append, List.length_take, List.length_drop]; omega) (by omega)]
        rw [List.append_assoc, List.take_append_drop]
theorem enc_bytes (t : List ByteArray) : ∀ F rs, ∀ x ∈ sym_Encode.enc t F rs, 0 ≤ x ∧ x < 256
  | 0, _ => by simp [sym_Encode.enc]
  | F + 1, rs => by
    rw [sym_Encode.enc]
    split
    · simp
    · split
      · intro x hx
        rcases List.mem_cons.1 hx with rfl | hx
        · omega
        · exact enc_bytes t F _ x hx
      · intro x hx
        rcases List.mem_cons.1 hx with rfl | hx
        · omega
        · rcases List.mem_cons.1 hx with rfl | hx
          · have := bt_range rs 0
            omega
          · exact enc_bytes t F _ x hx
theorem decode (t : List ByteArray) (h : okT t) (u : List Int) (hu : ∀ x ∈ u, 0 ≤ x ∧ x < 256) (hl : u.length < 1000000000) : sym_Decode.f t (sym_Encode.enc t u.length (strOfNums u)) (u.length : Int) = some (u, 0) := by
  have hel := enc_len t u.length (strOfNums u)
  unfold sym_Decode.f
  rw [okT_f h, Option.bind_some, if_pos rfl, if_neg (by omega), if_pos ⟨⟨by omega, by omega⟩, enc_bytes t _ _⟩]
  rw [decode_go t h u.length u.length u [] _ hu (Nat.le_refl _) (by simp) (by omega)]
  rfl
end Law
end Go.Proofs.Ythaifibhflfpkaa.Q
end
section
namespace Go.Proofs.Ythaifibhflfpkaa.Q
open Go.RowKit Go.Proofs.YthaifibhflfpkaaW.PrintWords Go.Proofs.YthaifibhflfpkaaW.PrintLast Go.Proofs.YthaifibhflfpkaaW.PrintMore Go.Proofs.YthaifibhflfpkaaX
attribute [local go_sem] max2_int min2_int max_two min_two max_three min_three max_four min_four   -- for this text's walks alone
set_option linter.unusedVariables false
set_option linter.unusedSimpArgs false
set_option maxHeartbeats 8000000 in
set_option maxRecDepth 100000 in
theorem slices_Clip_byte_byte.calls (A : Option Addr) (n c : Nat) (w : World) (hn : n ≤ c) : Calls Try.prog 87 #[.slice A n c] w fun e w' => e = .returned (.slice A n n) ∧ w' = w := by
 go_enter Try.func87, Try.ntmps87
 go_wp2
 go_ret
 exact ⟨rfl, rfl⟩
def lz_count.c : List Int → Int → Int × List Int × Bool
 | [], _ => (0, [], false)
 | x :: r, n => if x = 255 then lz_count.c r (wrap64 (n + wrap64 x)) else (wrap64 (n + wrap64 x), r, true)
def lz_count.f (l0 : List Int) : Option (Int × List Int × Bool) := if l0.length < 1000000000000000 then some (lz_count.c l0 15) else none
set_option maxHeartbeats 8000000 in
set_option maxRecDepth 100000 in
theorem lz_count.calls (A0 : Option Addr) (c0 : Nat) (l0 : List Int) (r1 : Int) (r2 : List Int) (r3 : Bool) (w0 w : World) (hB : Below w0.heap.size w0 w) (hr0 : Kd.C (Kd.int .u8) w0 A0 l0.length l0) (hc0 : l0.length ≤ c0) (h : lz_count.f l0 = some (r1, r2, r3)) :
  Calls Try.prog 86 #[.slice A0 l0.length c0] w fun e w' => ∃ A1 c1, e = .returned (.tuple #[.int .i64 r1, .slice A1 r2.length c1, .bool r3]) ∧ (Kd.C (Kd.int .u8) w0 A1 r2.length r2 ∧ r2.length ≤ c1) ∧ ∃ n, w' = w.drewN n := by
 have HR0 := aM hr0
 have HC0 := aM hc0
 have HB := aM hB
 clear hr0 hc0 hB
 unfold lz_count.f at h
 split at h
 case isFalse => exact absurd h (by simp)
 case isTrue hl =>
 have HLIM := aM hl
 have HV := aM (Option.some.inj h)
 clear h hl
 obtain ⟨i05, hi05, _, hsz5, _⟩ := info_parts info5
 have HI5 := aM hi05
 have HSZ5 := aM hsz5
 clear hi05 hsz5
 go_enter Try.func86, Try.ntmps86
 go_wp2
 repeat (go_quiet (fail); try go_wp2)
 go_loopg [5, 10] l0.length (fun kq v5 v10 w' => ∃ (n i : Int), v5 = .int .i64 n ∧ v10 = .int .i64 i ∧ Aside0 (0 ≤ i ∧ (kq : Int) + i = l0.length) ∧ Aside0 (lz_count.c (l0.drop i.toNat) n = (r1, r2, r3)) ∧ Aside0 (∃ m, w' = w.drewN m))
 case atStart => exact ⟨15, 0, rfl, rfl, ⟨by omega, by omega⟩, ⟨HV.out⟩, ⟨0, rfl⟩⟩
 case round =>
  obtain ⟨n, i, rfl, rfl, HI, HQ, HW⟩ := hrel
  obtain ⟨m0, hm0⟩ := HW.out
  clear HW
  subst hm0
  cases gk with
  | zero =>
   have c2b : decide (i < (l0.length : Int)) = false := decide_eq_false (by have := HI.out; omega)
   have HE : Aside0 (((0 : Int), ([] : List Int), false) = (r1, r2, r3)) := ⟨by
    have hi := HI.out
    have hq := HQ.out
    rw [List.drop_eq_nil_of_le (by omega)] at hq
    exact hq⟩
   go_wp2
   have he := HE.out
   injection he with h1 h2
   injection h2 with h2 h3
   subst h1
   subst h2
   subst h3
   refine bodyPost_ret (v := .tuple #[.int .i64 0, .slice none 0 0, .bool false]) (by simp [results, Try.results86, go_sem]) rfl ⟨none, 0, rfl, ⟨Kd.C_nil _ _, Nat.le_refl _⟩, _, rfl⟩
  | succ k1 =>
   have c2b : decide (i < (l0.length : Int)) = true := decide_eq_true (by have := HI.out; omega)
   have p1 : 0 ≤ i := HI.out.1
   have q1 : i < (l0.length : Int) := by have := HI.out; omega
   obtain ⟨ad, rfl, hx⟩ := Kd.at_int (Kd.C_drewN (Kd.C_below HR0.out HB.out) m0) i p1 q1
   have HD : Aside0 (l0.drop i.toNat = rd l0 i :: l0.drop (i.toNat + 1)) := ⟨by
    rw [List.drop_eq_getElem_cons (by omega)]
    congr 1
    unfold rd
    rw [List.getD_eq_getElem?_getD, List.getElem?_eq_getElem (by omega)]
    rfl⟩
   obtain ⟨x, hxe⟩ : ∃ x, x = rd l0 i := ⟨_, rfl⟩
   have hdd := HD.out
   rw [← hxe] at hdd hx
   have HD := aM hdd
   clear hdd hxe
   replace p1 := eq_true p1
   replace q1 := eq_true q1
   by_cases hff : x = 255
   ·
    have d1 : (x == 255) = true := beq_iff_eq.mpr hff
    have d2 : (x != 255) = false := bne_eq_false_iff_eq.mpr hff
    have HX := aM hff
    clear hff
    go_wp2
    repeat (go_quiet (fail); try go_wp2)
    go_roundg k1
    case measure => omega
    case rel =>
     have hi := HI.out
     have hw : wrap64 (i + 1) = i + 1 := by have := HLIM.out; unfold wrap64; omega
     have hn : (i + 1).toNat = i.toNat + 1 := by omega
     have hq := HQ.out
     rw [HD.out, lz_count.c, if_pos HX.out, ← hn] at hq
     refine ⟨_, i + 1, rfl, by rw [hw], ⟨by omega, by omega⟩, ⟨hq⟩, ?_⟩
     first | exact ⟨m0, rfl⟩ | exact ⟨_, rfl⟩ | exact ⟨m0 + 1, by simp [World.drewN]⟩
   ·
    have d1 : (x == 255) = false := beq_eq_false_iff_ne.mpr hff
    have d2 : (x != 255) = true := bne_iff_ne.mpr hff
    have HX := aM hff
    clear hff
    have hiw : IntKind.i64.wrap (i + 1) = i + 1 := by rw [i64_w]; have := HLIM.out; have := HI.out; unfold wrap64; omega
    obtain ⟨A4, c4, hcut4, hr4, hcc4⟩ := cut_nums_from (P := Try.prog) .u8 22 5 Try.underlying22 HI5.out HSZ5.out HR0.out HC0.out (i + 1) (by have := HI.out; omega) (by have := HI.out; omega)
    have HR4 := aM hr4
    have HC4 := aM hcc4
    clear hr4 hcc4
    obtain ⟨y4, hy4⟩ : ∃ y, y = l0.drop (i + 1).toNat := ⟨_, rfl⟩
    rw [← hy4] at hcut4 HR4 HC4
    have HY := aM hy4
    clear hy4
    have HE : Aside0 ((wrap64 (n + wrap64 x), y4, true) = (r1, r2, r3)) := ⟨by
     have hq := HQ.out
     rw [HD.out, lz_count.c, if_neg HX.out] at hq
     rw [HY.out, show (i + 1).toNat = i.toNat + 1 by have := HI.out; omega]
     exact hq⟩
    go_wp2
    repeat (go_quiet (fail); try go_wp2)
    have he := HE.out
    injection he with h1 h2
    injection h2 with h2 h3
    subst h1
    subst h2
    subst h3
    refine bodyPost_ret (v := .tuple #[.int .i64 (wrap64 (n + wrap64 x)), .slice A4 y4.length c4, .bool true]) (by simp [results, Try.results86, go_sem]) rfl ⟨A4, c4, rfl, ⟨HR4.out, HC4.out⟩, ?_⟩
    exact ⟨_, World.drewN_drewN _ _ _⟩
end Go.Proofs.Ythaifibhflfpkaa.Q
end
