/- A part of the claim's own texts: words, walks and plain laws. -/
import Derived.Test.YthaifibhflfpkaaTb2
import Derived.Test.YthaifibhflfpkaaTb4
import Derived.Test.YthaifibhflfpkaaTb1
import Derived.Maps.OwnSet
import Derived.Maps.Ext
import Derived.LoopIn
import Derived.LoopNIn
import Derived.OwnWalkIn
import Derived.RangeFuncBound
import Derived.RangeFuncCalls
import Derived.RangeFuncLeaves
import Derived.RangeFuncNested
import Derived.RegionIn
import Derived.Shelf.Abstract
import Derived.Shelf.RegionOpen
import Derived.TacticsInMore
import Derived.Laws.BitsAllLaws
section
namespace Go.Proofs.Ythaifibhflfpkaa.Q
open Go.RowKit Go.Proofs.YthaifibhflfpkaaW.PrintWords Go.Proofs.YthaifibhflfpkaaW.PrintLast Go.Proofs.YthaifibhflfpkaaW.PrintMore Go.Proofs.YthaifibhflfpkaaX
attribute [local go_sem] max2_int min2_int max_two min_two max_three min_three max_four min_four   -- for this text's walks alone
set_option linter.unusedVariables false
set_option linter.unusedSimpArgs false
mutual
def pfor_PutBlock.j0 : Nat → List Int → List Int → Bool → Option (List Int × Int)
 | 0, _, _, _ => none
 | k + 1, x0, x1, x27 => if x27 = true then (some (([] : List Int), 1)) else ((slices_Min_uint64_uint64.f k x1).bind fun t186 => (if 0 ≤ (x1.length : Int) then (if ((x1.length : Int) : Int).toNat ≤ 35184372088832 then (pfor_PutBlock.l0 k x0 x1 t186 (List.replicate ((x1.length : Int) : Int).toNat 0) x1 (x1.length : Int) 0) else (none)) else (none)))
def pfor_PutBlock.l0 : Nat → List Int → List Int → Int → List Int → List Int → Int → Int → Option (List Int × Int)
 | 0, _, _, _, _, _, _, _ => none
 | k + 1, x0, x1, x6, x7, x33, x34, x35 => if x35 < x34 then (if 0 ≤ x35 then (if x35 < (x33.length : Int) then (if x35 < (x7.length : Int) then (pfor_PutBlock.l0 k x0 x1 x6 (x7.set (x35 : Int).toNat (IntKind.u64.wrap ((rd x33 x35) - x6))) x33 x34 (wrap64 (x35 + 1))) else (none)) else (none)) else (none)) else ((pfor_width.f k x7).bind fun t192 => (if 0 ≤ (x1.length : Int) then (if ((x1.length : Int) : Int).toNat ≤ 35184372088832 then (pfor_PutBlock.l1 k x0 x1 x6 t192 ([] : List Int) 0 (List.replicate ((x1.length : Int) : Int).toNat 0) x7 (x7.length : Int) 0) else (none)) else (none)))
def pfor_PutBlock.l1 : Nat → List Int → List Int → Int → Int → List Int → Int → List Int → List Int → Int → Int → Option (List Int × Int)
 | 0, _, _, _, _, _, _, _, _, _, _ => none
 | k + 1, x0, x1, x6, x10, x11, x12, x13, x52, x53, x54 => if x54 < x53 then (if 0 ≤ x54 then (if x54 < (x52.length : Int) then ((pfor_high.f (rd x52 x54) x10).bind fun t197 => (if x54 < (x13.length : Int) then ((some (x13.set (x54 : Int).toNat (rd x52 x54) : List Int)).bind fun y198 => (if t197 > 0 then (if 0 ≤ x10 then (if x11.length < 140737488355328 then ((num_Put.f k (x11 ++ [(x54) % 256]) t197).bind fun t203 => (pfor_PutBlock.l1 k x0 x1 x6 x10 t203 (wrap64 (x12 + 1)) (y198.set (x54 : Int).toNat (Go.bits .andNot .u64 (rd x52 x54) (shl .u64 t197 x10))) x52 x53 (wrap64 (x54 + 1)))) else (none)) else (none)) else (pfor_PutBlock.l1 k x0 x1 x6 x10 x11 x12 y198 x52 x53 (wrap64 (x54 + 1))))) else (none))) else (none)) else (none)) else ((bits_Pack.f k x13 x10).bind fun bt206 => (if bt206.2 = 0 then ((slices_Clone_byte_byte.f x0).bind fun t210 => (if t210.length < 140737488355328 then ((num_Put.f k (t210 ++ [((x1.length : Int)) % 256]) x6).bind fun t216 => ((some (([(x10) % 256, (x12) % 256] : List Int) : List Int)).bind fun y219 => (if t216.length + y219.length < 140737488355328 then ((slices_Concat_byte_byte.f k (([(t216 ++ y219), bt206.1, x11] : List (List Int)))).bind fun t228 => (some (t228, 0))) else (none)))) else (none))) else (some (([] : List Int), bt206.2))))
end
def pfor_PutBlock.f (k : Nat) (l0 : List Int) (l1 : List Int) : Option (List Int × Int) := if (l1.length : Int) < 1 then (pfor_PutBlock.j0 k l0 l1 true) else (pfor_PutBlock.j0 k l0 l1 (decide ((l1.length : Int) > 32)))
set_option maxHeartbeats 8000000 in
set_option maxRecDepth 100000 in
theorem pfor_PutBlock.calls (k : Nat) (A0 : Option Addr) (c0 : Nat) (l0 : List Int) (A1 : Option Addr) (c1 : Nat) (l1 : List Int) (r1 : List Int) (r2 : Int) (w : World) (hr0 : Kd.C (Kd.int .u8) w A0 l0.length l0) (hc0 : l0.length ≤ c0) (hr1 : Kd.C (Kd.int .u64) w A1 l1.length l1) (hc1 : l1.length ≤ c1) (h : pfor_PutBlock.f k l0 l1 = some (r1, r2)) :
  Calls Try.prog 49 #[.slice A0 l0.length c0, .slice A1 l1.length c1] w fun e w' => ∃ v0_ : Value, e = .returned (.tuple #[v0_, .int .i64 r2]) ∧ Kd.R (Kd.int .u8) 5 w' w.heap.size (fun _ => True) v0_ r1 ∧ Below w.heap.size w w' := by
 have HR0 := aM hr0
 have HC0 := aM hc0
 clear hr0 hc0
 have HR1 := aM hr1
 have HC1 := aM hc1
 clear hr1 hc1
 have HB := aM (Below.refl w.heap.size w)
 have H : (if (l1.length : Int) < 1 then (pfor_PutBlock.j0 k l0 l1 true) else (pfor_PutBlock.j0 k l0 l1 (decide ((l1.length : Int) > 32)))) = some (r1, r2) := h
 clear h
 have HC3 := aM H
 clear H
 go_enter Try.func49, Try.ntmps49
 go_upto_region 1 with (fail)
 go_cut [27] (fun v27 wc => ∃ (kq : Nat) (x27_2 : Bool), v27 = .bool x27_2 ∧ Aside0 (pfor_PutBlock.j0 kq l0 l1 x27_2 = some (r1, r2)) ∧ Aside0 (kq ≤ k) ∧ Aside0 (Below w.heap.size w wc))
 case first =>
  have H := HC3.out
  clear HC3
  by_cases c4 : (l1.length : Int) < 1
  ·
   rw [if_pos c4] at H
   have c4b0 : decide ((l1.length : Int) < 1) = true := decide_eq_true c4
   have c4b1 : decide (l1.length < 1) = true := decide_eq_true (by omega)
   clear c4
   (first | rw [c4b0] | (simp only [i64_w, i32_w]; rw [c4b0]) | skip)
   have H' := aM H
   clear H
   go_wp2
   go_meet
   case rel => exact ⟨_, (true), (by first | rfl | (simp; done) | (simp [*]; done)), H', ⟨by first | omega | exact Nat.le_refl _⟩, ⟨xB HB.out⟩⟩
  ·
   rw [if_neg c4] at H
   have c4b0 : decide ((l1.length : Int) < 1) = false := decide_eq_false c4
   have c4b1 : decide (l1.length < 1) = false := decide_eq_false (by omega)
   clear c4
   (first | rw [c4b0] | (simp only [i64_w, i32_w]; rw [c4b0]) | skip)
   have H' := aM H
   clear H
   go_wp2
   go_meet
   case rel => exact ⟨_, (decide ((l1.length : Int) > 32)), (by first | rfl | (simp; done) | (simp [*]; done)), H', ⟨by first | omega | exact Nat.le_refl _⟩, ⟨xB HB.out⟩⟩
 case rest =>
  clear HC3
  try clear c1
  try clear p2
  try clear c4
  try clear c4b0
  try clear c4b1
  obtain ⟨kq, x27_2, rfl, HA, HJ2, HB⟩ := hcut
  cases kq with
  | zero => exact absurd HA.out (by simp [pfor_PutBlock.j0])
  | succ kj2 =>
   have H := HA.out
   clear HA
   simp only [pfor_PutBlock.j0] at H
   by_cases c5 : x27_2 = true
   ·
    subst c5
    have H1 : (some (([] : List Int), 1)) = some (r1, r2) := by rw [if_pos rfl] at H; exact H
    clear H
    have H := H1
    clear H1
    simp only [Option.some.injEq, Prod.mk.injEq] at H
    obtain ⟨rfl, rfl⟩ := H
    go_wp2
    go_ret2
    exact ⟨_, by first | rfl | (simp [errW_none, errW_some] <;> rfl) | (simp [*, errW_none, errW_some] <;> rfl), by first | exact Kd.R_nil _ _ _ _ _ | exact Kd.N_nil _ _ _ _ _ | exact Kd.V_nil _ _ _ _ _ | exact Kd.Q_nil _ _ _ _ _ | exact Kd.S_nil _ _ _ _ _, xB HB.out⟩
   ·
    replace c5 := Bool.eq_false_iff.mpr c5
    subst c5
    have H1 : ((slices_Min_uint64_uint64.f kj2 l1).bind fun t186 => (if 0 ≤ (l1.length : Int) then (if ((l1.length : Int) : Int).toNat ≤ 35184372088832 then (pfor_PutBlock.l0 kj2 l0 l1 t186 (List.replicate ((l1.length : Int) : Int).toNat 0) l1 (l1.length : Int) 0) else (none)) else (none))) = some (r1, r2) := by rw [if_neg (show ¬ (false = true) by decide)] at H; exact H
    clear H
    have H := H1
    clear H1
    replace H := Option.bind_eq_some_iff.mp H
    obtain ⟨t186, A60, H⟩ := H
    replace H : (if 0 ≤ (l1.length : Int) then (if ((l1.length : Int) : Int).toNat ≤ 35184372088832 then (pfor_PutBlock.l0 kj2 l0 l1 t186 (List.replicate ((l1.length : Int) : Int).toNat 0) l1 (l1.length : Int) 0) else (none)) else (none)) = some (r1, r2) := H
    have A6 := aM A60
    clear A60
    by_cases c7 : 0 ≤ (l1.length : Int)
    ·
     rw [if_pos c7] at H
     have c7b0 := eq_true c7
     have c7b1 : decide (0 ≤ (l1.length : Int)) = true := decide_eq_true c7
     clear c7
     by_cases c8 : ((l1.length : Int) : Int).toNat ≤ 35184372088832
     ·
      rw [if_pos c8] at H
      have c8b0 := eq_true c8
      have c8b1 : decide (((l1.length : Int) : Int).toNat ≤ 35184372088832) = true := decide_eq_true c8
      clear c8
      obtain ⟨y187, hy187⟩ : ∃ y_ : List Int, y_ = (List.replicate ((l1.length : Int) : Int).toNat 0) := ⟨_, rfl⟩
      replace H : (pfor_PutBlock.l0 kj2 l0 l1 t186 y187 l1 (l1.length : Int) 0) = some (r1, r2) := by first | (rw [hy187]; with_reducible exact H) | (have H2_ := (Option.bind_some _ _).symm.trans H; rw [hy187]; with_reducible exact H2_) | (have H2_ := (Option.bind_some _ _).symm.trans H; with_reducible exact H2_) | with_reducible exact H | (rw [hy187]; exact H) | exact H
      have Ny187 := aM hy187
      clear hy187
      have H' := aM H
      clear H
      go_wp2_with (first | ((with_reducible refine gate_callee (f := 76) rfl ?_); refine goesL_ (some 29) rfl rfl Try.func76 (by kernel_rfl) rfl #[.slice A1 l1.length c1] rfl (by (try simp only [List.map_toArray, List.map_cons, List.map_nil]); first | done | rfl | (simp only [List.length_drop, List.length_take]; rfl)) ?_; (with_reducible refine (slices_Min_uint64_uint64.calls kj2 _ _ l1 t186 _ ?side1 ?side2 A6.out).mono ?_); (case side1 => exact xC (Kd.C_below HR1.out HB.out)); (case side2 => exact HC1.out); rintro e w9 ⟨rfl, hb⟩; refine ⟨_, rfl, ?_⟩; have n0_ := aM (below_step (xB HB.out) hb); clear HB; have HB := n0_; clear n0_; (try clear hb); (try clear hb2); (try clear hk); (try clear hi)) | ((with_reducible refine gate_dst (N := 32) rfl ?_); (try (refine gate_guard (by rfl) ?_; dsimp only)); refine Kd.R_make (Kd.int .u64) _ 40 rfl (N := 32) rfl 39 _ _ rfl (l1.length : Int) rfl rfl Try.underlying39 (.int .u64 0) 8 info40 rfl (by decide) (by omega) 0 (ok := fun _ => True) (okp := fun _ => True) rfl (fun _ hk => hk) trivial (of_decide_eq_true (by first | (with_reducible assumption) | assumption)) (Nat.le_trans (Nat.mul_le_mul_right _ (of_decide_eq_true (by first | (with_reducible assumption) | assumption) : (l1.length : Int).toNat ≤ 35184372088832)) (by omega)) (Below.refl _ _) (Nat.le_refl _) ?_; intro v188 w10 ho11 hb hg_ hnew_; clear hg_ hnew_; (first | rw [← Ny187.out] at ho11 | (simp only [Int.reduceToNat] at ho11; rw [← Ny187.out] at ho11)); have n0_ := aM (Kd.R_lower ho11 (below_size (xB HB.out))); have n1_ := aM (below_step (xB HB.out) hb); clear HB; have HO189 := n0_; have HB := n1_; clear n0_ n1_; clear hb ho11))
      go_loopg [35] kj2 (fun kq v35 w' => ∃ (x7_2 : List Int) (x35_2 : Int), v35 = .int .i64 x35_2 ∧ Aside0 (pfor_PutBlock.l0 kq l0 l1 t186 x7_2 l1 (l1.length : Int) x35_2 = some (r1, r2)) ∧ Aside0 (kq ≤ kj2) ∧ Aside0 (Kd.R (Kd.int .u64) 40 w' w.heap.size (fun _ => True) v188 x7_2) ∧ Aside0 (Below w.heap.size w w'))
      case atStart => exact ⟨(y187), (0), (by first | rfl | (simp; done) | (simp [*]; done)), H', ⟨Nat.le_refl _⟩, ⟨by (with_reducible repeat (first | apply Kd.R_alloc | apply Kd.R_drewN | apply Kd.R_drew)); exact HO189.out⟩, ⟨xB HB.out⟩⟩
      case round =>
       clear H'
       try clear c1
       try clear p2
       try clear c4
       try clear c4b0
       try clear c4b1
       try clear c5
       try clear c7
       try clear c7b0
       try clear c7b1
       try clear c8
       try clear c8b0
       try clear c8b1
       try clear p2
       obtain ⟨x7_2, x35_2, rfl, HA, HK2, HO_7, HB⟩ := hrel
       cases gk with
       | zero => exact absurd HA.out (by simp [pfor_PutBlock.l0])
       | succ k2 =>
        have H := HA.out
        clear HA
        simp only [pfor_PutBlock.l0] at H
        by_cases c12 : x35_2 < (l1.length : Int)
        ·
         rw [if_pos c12] at H
         have c12b0 : decide (x35_2 < (l1.length : Int)) = true := decide_eq_true c12
         clear c12
         by_cases c13 : 0 ≤ x35_2
         ·
          rw [if_pos c13] at H
          have c13b0 : decide (0 ≤ x35_2) = true := decide_eq_true c13
          clear c13
          by_cases c14 : x35_2 < (l1.length : Int)
          ·
           rw [if_pos c14] at H
           have c14b0 : decide (x35_2 < (l1.length : Int)) = true := decide_eq_true c14
           clear c14
           by_cases c15 : x35_2 < (x7_2.length : Int)
           ·
            rw [if_pos c15] at H
            have c15b0 : decide (x35_2 < (x7_2.length : Int)) = true := decide_eq_true c15
            clear c15
            obtain ⟨y191, hy191⟩ : ∃ y_ : List Int, y_ = (x7_2.set (x35_2 : Int).toNat (IntKind.u64.wrap ((rd l1 x35_2) - t186))) := ⟨_, rfl⟩
            replace H : (pfor_PutBlock.l0 k2 l0 l1 t186 y191 l1 (l1.length : Int) (wrap64 (x35_2 + 1))) = some (r1, r2) := by first | (rw [hy191]; with_reducible exact H) | (have H2_ := (Option.bind_some _ _).symm.trans H; rw [hy191]; with_reducible exact H2_) | (have H2_ := (Option.bind_some _ _).symm.trans H; with_reducible exact H2_) | with_reducible exact H | (rw [hy191]; exact H) | exact H
            have Ny191 := aM hy191
            clear hy191
            have H' := aM H
            clear H
            have p190 : 0 ≤ (x35_2 : Int) := of_decide_eq_true (by first | (with_reducible assumption) | assumption)
            have q190 : x35_2 < (l1.length : Int) := of_decide_eq_true (by first | (with_reducible assumption) | assumption)
            obtain ⟨ad190, e190, hx190_0⟩ := Kd.at_int HR1.out x35_2 p190 q190
            cases e190
            replace hx190_0 := (HB.out.cell (World.block_lt_of_cell? w _ hx190_0)).trans hx190_0
            replace p190 := eq_true p190
            replace q190 := eq_true q190
            have p16 : 0 ≤ (x35_2 : Int) := of_decide_eq_true (by first | (with_reducible assumption) | assumption)
            have q16 : (x35_2 : Int) < ((x7_2.length : Int) : Int) := of_decide_eq_true (by first | (with_reducible assumption) | assumption)
            obtain ⟨go16, co16, eo16, gb16, gl16, cl16, HG16⟩ := Kd.R_form HO_7.out (by omega)
            (first | cases eo16 | (injection eo16 with ea_ en_ ec_; (first | subst ea_ | (injection ea_ with ea_; subst ea_)); subst ec_; clear en_))
            have GB16 := aM gb16
            have GG16 := aM HG16
            clear gb16 gl16 HG16
            obtain ⟨hx16_0, hf16_0⟩ := Kd.R_celln 0 HO_7.out (x35_2 : Int) p16 q16
            replace p16 := eq_true p16
            replace q16 := eq_true q16
            have HP17 := Kd.R_putg HO_7.out (x35_2 : Int) (IntKind.u64.wrap ((rd l1 x35_2) - t186))
            go_wp2_with (first | ((with_reducible refine gate_store (t := 40) (p := 45) rfl ?_); refine store_event (t := 40) (p := 45) (v := ?vo_w18) (w1 := (wr.setCell ⟨go16, (x35_2 : Int).toNat, none⟩ (.int .u64 (IntKind.u64.wrap ((rd l1 x35_2) - t186))))) ?hg ?ho ?hn ?hr ?_; (case ho => rfl); (case hg => rfl); (case hn => rfl); (case hr => first | (go_simp; done) | (go_simp; rfl)); intro w18 hw; have hg : wr.grownBy w18 (some go16) := (by rw [hw]; exact HP17.2); have hp_ : Kd.R (Kd.int .u64) 40 w18 w.heap.size (fun _ => True) (.slice (some ⟨go16, 0, none⟩) x7_2.length co16) y191 := (by rw [hw, Ny191.out]; exact HP17.1); clear HP17; have n0_ := aM (hp_); have n1_ := aM ((by rw [hw]; exact below_set (HB.out) GB16.out : Below w.heap.size w w18)); clear HO_7; clear HB; have HO_7 := n0_; have HB := n1_; clear n0_ n1_; clear hg hw hp_))
            go_roundg k2
            case measure => have := HJ2.out; have := HK2.out; omega
            case rel => exact ⟨(y191), (wrap64 (x35_2 + 1)), (by first | rfl | (simp; done) | (simp [*]; done)), H', ⟨by have := HJ2.out; have := HK2.out; omega⟩, ⟨by (with_reducible repeat (first | apply Kd.R_alloc | apply Kd.R_drewN | apply Kd.R_drew)); exact HO_7.out⟩, ⟨xB HB.out⟩⟩
           ·
            rw [if_neg c15] at H
            exact absurd H (by simp)
          ·
           rw [if_neg c14] at H
           exact absurd H (by simp)
         ·
          rw [if_neg c13] at H
          exact absurd H (by simp)
        ·
         rw [if_neg c12] at H
         have c12b0 : decide (x35_2 < (l1.length : Int)) = false := decide_eq_false c12
         clear c12
         replace H := Option.bind_eq_some_iff.mp H
         obtain ⟨t192, A190, H⟩ := H
         replace H : (if 0 ≤ (l1.length : Int) then (if ((l1.length : Int) : Int).toNat ≤ 35184372088832 then (pfor_PutBlock.l1 k2 l0 l1 t186 t192 ([] : List Int) 0 (List.replicate ((l1.length : Int) : Int).toNat 0) x7_2 (x7_2.length : Int) 0) else (none)) else (none)) = some (r1, r2) := H
         have A19 := aM A190
         clear A190
         by_cases c20 : 0 ≤ (l1.length : Int)
         ·
          rw [if_pos c20] at H
          have c20b0 := eq_true c20
          have c20b1 : decide (0 ≤ (l1.length : Int)) = true := decide_eq_true c20
          clear c20
          by_cases c21 : ((l1.length : Int) : Int).toNat ≤ 35184372088832
          ·
           rw [if_pos c21] at H
           have c21b0 := eq_true c21
           have c21b1 : decide (((l1.length : Int) : Int).toNat ≤ 35184372088832) = true := decide_eq_true c21
           clear c21
           obtain ⟨y193, hy193⟩ : ∃ y_ : List Int, y_ = (List.replicate ((l1.length : Int) : Int).toNat 0) := ⟨_, rfl⟩
           replace H : (pfor_PutBlock.l1 k2 l0 l1 t186 t192 ([] : List Int) 0 y193 x7_2 (x7_2.length : Int) 0) = some (r1, r2) := by first | (rw [hy193]; with_reducible exact H) | (have H2_ := (Option.bind_some _ _).symm.trans H; rw [hy193]; with_reducible exact H2_) | (have H2_ := (Option.bind_some _ _).symm.trans H; with_reducible exact H2_) | with_reducible exact H | (rw [hy193]; exact H) | exact H
           have Ny193 := aM hy193
           clear hy193
           have H' := aM H
           clear H
           obtain ⟨Ao22, co22, eo22⟩ := Kd.R_slice HO_7.out
           subst eo22
           go_wp2_with (first | ((with_reducible refine gate_callee (f := 77) rfl ?_); refine goesL_ (some 48) rfl rfl Try.func77 (by kernel_rfl) rfl #[.slice Ao22 x7_2.length co22] rfl (by (try simp only [List.map_toArray, List.map_cons, List.map_nil]); first | done | rfl | (simp only [List.length_drop, List.length_take]; rfl)) ?_; (with_reducible refine (pfor_width.calls k2 _ _ x7_2 t192 _ ?side1 ?side2 A19.out).mono ?_); (case side1 => exact xC ((Kd.R_reads' HO_7.out).2.2)); (case side2 => exact (Kd.R_reads' HO_7.out).2.1); rintro e w23 ⟨rfl, hb⟩; refine ⟨_, rfl, ?_⟩; have n0_ := aM (Kd.R_below (xR HO_7.out) hb); have n1_ := aM (below_step (xB HB.out) hb); clear HO_7; clear HB; have HO_7 := n0_; have HB := n1_; clear n0_ n1_; (try clear hb); (try clear hb2); (try clear hk); (try clear hi)) | ((with_reducible refine gate_dst (N := 51) rfl ?_); (try (refine gate_guard (by rfl) ?_; dsimp only)); refine Kd.R_make (Kd.int .u64) _ 40 rfl (N := 51) rfl 39 _ _ rfl (l1.length : Int) rfl rfl Try.underlying39 (.int .u64 0) 8 info40 rfl (by decide) (by omega) 0 (ok := fun _ => True) (okp := fun _ => True) rfl (fun _ hk => hk) trivial (of_decide_eq_true (by first | (with_reducible assumption) | assumption)) (Nat.le_trans (Nat.mul_le_mul_right _ (of_decide_eq_true (by first | (with_reducible assumption) | assumption) : (l1.length : Int).toNat ≤ 35184372088832)) (by omega)) (Below.refl _ _) (Nat.le_refl _) ?_; intro v194 w24 ho25 hb hg_ hnew_; clear hg_ hnew_; (first | rw [← Ny193.out] at ho25 | (simp only [Int.reduceToNat] at ho25; rw [← Ny193.out] at ho25)); have n0_ := aM (Kd.R_elder' (xR HO_7.out) (Kd.R_base ho25) hb); have n1_ := aM (Kd.R_lower (Kd.R_new' ho25 (Kd.R_lt (xR HO_7.out))) (below_size (xB HB.out))); have n2_ := aM (below_step (xB HB.out) hb); clear HO_7; clear HB; have HO_7 := n0_; have HO195 := n1_; have HB := n2_; clear n0_ n1_ n2_; clear hb ho25))
           go_loopg [11, 12, 54] k2 (fun kq v11 v12 v54 w' => ∃ (x11_3 : List Int) (x12_3 : Int) (x13_3 : List Int) (x54_3 : Int), v12 = .int .i64 x12_3 ∧ v54 = .int .i64 x54_3 ∧ Aside0 (pfor_PutBlock.l1 kq l0 l1 t186 t192 x11_3 x12_3 x13_3 x7_2 (x7_2.length : Int) x54_3 = some (r1, r2)) ∧ Aside0 (kq ≤ k2) ∧ Aside0 (Kd.R (Kd.int .u8) 5 w' w.heap.size (fun _ => True) v11 x11_3) ∧ Aside0 (Kd.R (Kd.int .u64) 40 w' w.heap.size (fun k_ => some k_ ≠ ((.slice Ao22 x7_2.length co22) : Value).ownBlock) v194 x13_3) ∧ Aside0 (Kd.R (Kd.int .u64) 40 w' w.heap.size (fun k_ => some k_ ≠ (v194 : Value).ownBlock) (.slice Ao22 x7_2.length co22) x7_2) ∧ Aside0 (Below w.heap.size w w'))
           case atStart => exact ⟨(([] : List Int)), (0), (y193), (0), (by first | rfl | (simp; done) | (simp [*]; done)), (by first | rfl | (simp; done) | (simp [*]; done)), H', ⟨Nat.le_refl _⟩, ⟨by first | exact Kd.R_nil _ _ _ _ _ | exact Kd.N_nil _ _ _ _ _ | exact Kd.V_nil _ _ _ _ _ | exact Kd.Q_nil _ _ _ _ _ | exact Kd.S_nil _ _ _ _ _⟩, ⟨by (with_reducible repeat (first | apply Kd.R_alloc | apply Kd.R_drewN | apply Kd.R_drew)); exact Kd.R_mono HO195.out (fun _ hk => hk.2)⟩, ⟨by (with_reducible repeat (first | apply Kd.R_alloc | apply Kd.R_drewN | apply Kd.R_drew)); exact Kd.R_mono HO_7.out (fun _ hk => hk.2)⟩, ⟨xB HB.out⟩⟩
           case round =>
            clear H'
            try clear c1
            try clear p1
            try clear q1
            try clear hx1
            try clear c2
            try clear p2
            try clear c4
            try clear c4b0
            try clear c4b1
            try clear c5
            try clear p6
            try clear c7
            try clear c7b0
            try clear c7b1
            try clear c8
            try clear c8b0
            try clear c8b1
            try clear c12
            try clear c12b0
            try clear c13
            try clear c13b0
            try clear c14
            try clear c14b0
            try clear c15
            try clear c15b0
            try clear p16
            try clear q16
            try clear hx16
            try clear hf16
            try clear p19
            try clear q19
            try clear hx19
            try clear c20
            try clear c20b0
            try clear c20b1
            try clear c21
            try clear c21b0
            try clear c21b1
            try clear hx16_0
            try clear hx190_0
            try clear p16
            try clear p190
            try clear p2
            try clear q16
            try clear q190
            obtain ⟨x11_3, x12_3, x13_3, x54_3, rfl, rfl, HA, HK3, HO_11, HO_13, HO_52, HB⟩ := hrel
            cases gk with
            | zero => exact absurd HA.out (by simp [pfor_PutBlock.l1])
            | succ k3 =>
             have H := HA.out
             clear HA
             simp only [pfor_PutBlock.l1] at H
             by_cases c26 : x54_3 < (x7_2.length : Int)
             ·
              rw [if_pos c26] at H
              have c26b0 : decide (x54_3 < (x7_2.length : Int)) = true := decide_eq_true c26
              clear c26
              by_cases c27 : 0 ≤ x54_3
              ·
               rw [if_pos c27] at H
               have c27b0 : decide (0 ≤ x54_3) = true := decide_eq_true c27
               clear c27
               by_cases c28 : x54_3 < (x7_2.length : Int)
               ·
                rw [if_pos c28] at H
                have c28b0 : decide (x54_3 < (x7_2.length : Int)) = true := decide_eq_true c28
                clear c28
                replace H := Option.bind_eq_some_iff.mp H
                obtain ⟨t197, A290, H⟩ := H
                replace H : (if x54_3 < (x13_3.length : Int) then ((some (x13_3.set (x54_3 : Int).toNat (rd x7_2 x54_3) : List Int)).bind fun y198 => (if t197 > 0 then (if 0 ≤ t192 then (if x11_3.length < 140737488355328 then ((num_Put.f k3 (x11_3 ++ [(x54_3) % 256]) t197).bind fun t203 => (pfor_PutBlock.l1 k3 l0 l1 t186 t192 t203 (wrap64 (x12_3 + 1)) (y198.set (x54_3 : Int).toNat (Go.bits .andNot .u64 (rd x7_2 x54_3) (shl .u64 t197 t192))) x7_2 (x7_2.length : Int) (wrap64 (x54_3 + 1)))) else (none)) else (none)) else (pfor_PutBlock.l1 k3 l0 l1 t186 t192 x11_3 x12_3 y198 x7_2 (x7_2.length : Int) (wrap64 (x54_3 + 1))))) else (none)) = some (r1, r2) := H
                have A29 := aM A290
                clear A290
                by_cases c30 : x54_3 < (x13_3.length : Int)
                ·
                 rw [if_pos c30] at H
                 have c30b0 : decide (x54_3 < (x13_3.length : Int)) = true := decide_eq_true c30
                 clear c30
                 obtain ⟨y198, hy198⟩ : ∃ y_ : List Int, y_ = (x13_3.set (x54_3 : Int).toNat (rd x7_2 x54_3)) := ⟨_, rfl⟩
                 replace H : (if t197 > 0 then (if 0 ≤ t192 then (if x11_3.length < 140737488355328 then ((num_Put.f k3 (x11_3 ++ [(x54_3) % 256]) t197).bind fun t203 => (pfor_PutBlock.l1 k3 l0 l1 t186 t192 t203 (wrap64 (x12_3 + 1)) (y198.set (x54_3 : Int).toNat (Go.bits .andNot .u64 (rd x7_2 x54_3) (shl .u64 t197 t192))) x7_2 (x7_2.length : Int) (wrap64 (x54_3 + 1)))) else (none)) else (none)) else (pfor_PutBlock.l1 k3 l0 l1 t186 t192 x11_3 x12_3 y198 x7_2 (x7_2.length : Int) (wrap64 (x54_3 + 1)))) = some (r1, r2) := by first | (rw [hy198]; with_reducible exact H) | (have H2_ := (Option.bind_some _ _).symm.trans H; rw [hy198]; with_reducible exact H2_) | (have H2_ := (Option.bind_some _ _).symm.trans H; with_reducible exact H2_) | with_reducible exact H | (rw [hy198]; exact H) | exact H
                 have Ny198 := aM hy198
                 clear hy198
                 by_cases c32 : t197 > 0
                 ·
                  rw [if_pos c32] at H
                  have c32b0 : decide (0 < t197) = true := decide_eq_true c32
                  clear c32
                  by_cases c33 : 0 ≤ t192
                  ·
                   rw [if_pos c33] at H
                   have c33b0 := eq_true c33
                   have c33b1 : decide (0 ≤ t192) = true := decide_eq_true c33
                   clear c33
                   obtain ⟨ji34, hji34⟩ : ∃ j_ : Int, (shl .u64 t197 t192) = j_ := ⟨_, rfl⟩
                   replace H : (if x11_3.length < 140737488355328 then ((num_Put.f k3 (x11_3 ++ [(x54_3) % 256]) t197).bind fun t203 => (pfor_PutBlock.l1 k3 l0 l1 t186 t192 t203 (wrap64 (x12_3 + 1)) (y198.set (x54_3 : Int).toNat (Go.bits .andNot .u64 (rd x7_2 x54_3) (ji34))) x7_2 (x7_2.length : Int) (wrap64 (x54_3 + 1)))) else (none)) = some (r1, r2) := by first | (rw [hji34] at H; exact H) | (simp only [hji34] at H ⊢; exact H)
                   (try rw [hji34] at A29)
                   have hji34_ : (IntKind.u64.wrap (t197 * 2 ^ min t192.toNat 64)) = ji34 := hji34
                   have hji34z : t192 ≤ 64 → (IntKind.u64.wrap (t197 * 2 ^ t192.toNat)) = ji34 := shl_small hji34
                   obtain ⟨y199, hy199⟩ : ∃ y_ : List Int, y_ = (y198.set (x54_3 : Int).toNat (Go.bits .andNot .u64 (rd x7_2 x54_3) (ji34))) := ⟨_, rfl⟩
                   replace H : (if x11_3.length < 140737488355328 then ((num_Put.f k3 (x11_3 ++ [(x54_3) % 256]) t197).bind fun t203 => (pfor_PutBlock.l1 k3 l0 l1 t186 t192 t203 (wrap64 (x12_3 + 1)) y199 x7_2 (x7_2.length : Int) (wrap64 (x54_3 + 1)))) else (none)) = some (r1, r2) := by first | (rw [hy199]; with_reducible exact H) | (have H2_ := (Option.bind_some _ _).symm.trans H; rw [hy199]; with_reducible exact H2_) | (have H2_ := (Option.bind_some _ _).symm.trans H; with_reducible exact H2_) | with_reducible exact H | (rw [hy199]; exact H) | exact H
                   have Ny199 := aM hy199
                   clear hy199
                   by_cases c36 : x11_3.length < 140737488355328
                   ·
                    rw [if_pos c36] at H
                    have LMc36 := aM c36
                    clear c36
                    obtain ⟨y200, hy200⟩ : ∃ y_ : List Int, y_ = (x11_3 ++ [(x54_3) % 256]) := ⟨_, rfl⟩
                    replace H : ((num_Put.f k3 y200 t197).bind fun t203 => (pfor_PutBlock.l1 k3 l0 l1 t186 t192 t203 (wrap64 (x12_3 + 1)) y199 x7_2 (x7_2.length : Int) (wrap64 (x54_3 + 1)))) = some (r1, r2) := by first | (rw [hy200]; with_reducible exact H) | (have H2_ := (Option.bind_some _ _).symm.trans H; rw [hy200]; with_reducible exact H2_) | (have H2_ := (Option.bind_some _ _).symm.trans H; with_reducible exact H2_) | with_reducible exact H | (rw [hy200]; exact H) | exact H
                    have Ny200 := aM hy200
                    clear hy200
                    replace H := Option.bind_eq_some_iff.mp H
                    obtain ⟨t203, A370, H⟩ := H
                    replace H : (pfor_PutBlock.l1 k3 l0 l1 t186 t192 t203 (wrap64 (x12_3 + 1)) y199 x7_2 (x7_2.length : Int) (wrap64 (x54_3 + 1))) = some (r1, r2) := H
                    have A37 := aM A370
                    clear A370
                    have H' := aM H
                    clear H
                    have p196 : 0 ≤ (x54_3 : Int) := of_decide_eq_true (by first | (with_reducible assumption) | assumption)
                    have q196 : x54_3 < (x7_2.length : Int) := of_decide_eq_true (by first | (with_reducible assumption) | assumption)
                    obtain ⟨ad196, e196, hx196_0⟩ := Kd.at_int (Kd.R_reads' HO_52.out).2.2 x54_3 p196 q196
                    cases e196
                    replace p196 := eq_true p196
                    replace q196 := eq_true q196
                    go_wp2_with (first | ((with_reducible refine gate_callee (f := 78) rfl ?_); refine goesL_ (some 61) rfl rfl Try.func78 (by kernel_rfl) rfl #[.int .u64 (rd x7_2 x54_3), .int .i64 t192] rfl (by (try simp only [List.map_toArray, List.map_cons, List.map_nil]); first | done | rfl | (simp only [List.length_drop, List.length_take]; rfl)) ?_; (with_reducible refine (pfor_high.calls (rd x7_2 x54_3) t192 t197 _ A29.out).mono ?_); rintro e w' ⟨rfl, ⟨nd, rfl⟩⟩; refine ⟨_, rfl, ?_⟩; (try (rw [drewN_self wr]; generalize hq_ : World.drewN wr _ = wr; have n0_ : Aside0 (Kd.R (Kd.int .u8) 5 wr w.heap.size (fun _ => True) u11 x11_3) := ⟨by rw [← hq_]; exact (xR HO_11.out)⟩; have n1_ : Aside0 (Kd.R (Kd.int .u64) 40 wr w.heap.size (fun k_ => some k_ ≠ (.slice (some ad196) x7_2.length co22 : Value).ownBlock) v194 x13_3) := ⟨by rw [← hq_]; exact (xR HO_13.out)⟩; have n2_ : Aside0 (Kd.R (Kd.int .u64) 40 wr w.heap.size (fun k_ => some k_ ≠ (v194 : Value).ownBlock) (.slice (some ad196) x7_2.length co22) x7_2) := ⟨by rw [← hq_]; exact (xR HO_52.out)⟩; have n3_ : Aside0 (Below w.heap.size w wr) := ⟨by rw [← hq_]; exact (xB HB.out)⟩; clear HO_11 HO_13 HO_52 HB hq_; have HO_11 := n0_; have HO_13 := n1_; have HO_52 := n2_; have HB := n3_; clear n0_ n1_ n2_ n3_)); have p31 : 0 ≤ (x54_3 : Int) := of_decide_eq_true (by first | (with_reducible assumption) | assumption); have q31 : (x54_3 : Int) < ((x13_3.length : Int) : Int) := of_decide_eq_true (by first | (with_reducible assumption) | assumption); obtain ⟨go31, co31, eo31, gb31, gl31, cl31, HG31⟩ := Kd.R_form HO_13.out (by omega); (first | cases eo31 | (injection eo31 with ea_ en_ ec_; (first | subst ea_ | (injection ea_ with ea_; subst ea_)); subst ec_; clear en_)); have GB31 := aM gb31; have GG31 := aM HG31; clear gb31 gl31 HG31; obtain ⟨hx31_0, hf31_0⟩ := Kd.R_celln 0 HO_13.out (x54_3 : Int) p31 q31; replace p31 := eq_true p31; replace q31 := eq_true q31; obtain ⟨hy38_, hz38_⟩ := Kd.R_celln 0 HO_13.out (x54_3 : Int) (of_decide_eq_true (by first | (with_reducible assumption) | assumption)) (of_decide_eq_true (by first | (with_reducible assumption) | assumption)); have HP38 := Kd.R_putg HO_13.out (x54_3 : Int) (rd x7_2 x54_3)) | ((with_reducible refine gate_store (t := 40) (p := 65) rfl ?_); refine store_event (t := 40) (p := 65) (v := ?vo_w39) (w1 := (wr.setCell ⟨go31, (x54_3 : Int).toNat, none⟩ (.int .u64 (rd x7_2 x54_3)))) ?hg ?ho ?hn ?hr ?_; (case ho => rfl); (case hg => rfl); (case hn => rfl); (case hr => first | (go_simp; done) | (go_simp; rfl)); intro w39 hw; have hg : wr.grownBy w39 (some go31) := (by rw [hw]; exact HP38.2); have hp_ : Kd.R (Kd.int .u64) 40 w39 w.heap.size (fun k_ => some k_ ≠ (.slice (some ad196) x7_2.length co22 : Value).ownBlock) (.slice (some ⟨go31, 0, none⟩) x13_3.length co31) y198 := (by rw [hw, Ny198.out]; exact HP38.1); clear HP38; have n0_ := aM (Kd.R_over' (v := (.slice (some ⟨go31, 0, none⟩) x13_3.length co31)) (xR HO_11.out) (Kd.R_typed HO_13.out) (by decide) hg); have n1_ := aM (hp_); have n2_ := aM (Kd.R_after (v := (.slice (some ⟨go31, 0, none⟩) x13_3.length co31)) (v1 := (.slice (some ⟨go31, 0, none⟩) x13_3.length co31)) (ok := (fun _ => True)) (by (with_reducible repeat (first | apply Kd.R_alloc | apply Kd.R_drewN | apply Kd.R_drew)); exact Kd.R_mono HO_52.out (fun _ hk => ⟨trivial, hk⟩)) hg (.inl rfl)); have n3_ := aM ((by rw [hw]; exact below_set (HB.out) GB31.out : Below w.heap.size w w39)); clear HO_11; clear HO_13; clear HO_52; clear HB; have HO_11 := n0_; have HO_13 := n1_; have HO_52 := n2_; have HB := n3_; clear n0_ n1_ n2_ n3_; clear hg hw hp_; have p35 : 0 ≤ (x54_3 : Int) := of_decide_eq_true (by first | (with_reducible assumption) | assumption); have q35 : (x54_3 : Int) < ((x13_3.length : Int) : Int) := of_decide_eq_true (by first | (with_reducible assumption) | assumption); obtain ⟨hx35_0, hf35_0⟩ := Kd.R_celln 0 HO_13.out (x54_3 : Int) p35 q35; replace p35 := eq_true p35; replace q35 := eq_true q35; obtain ⟨hy40_, hz40_⟩ := Kd.R_celln 0 HO_13.out (x54_3 : Int) (of_decide_eq_true (by first | (with_reducible assumption) | assumption)) (of_decide_eq_true (by first | (with_reducible assumption) | assumption)); have HP40 := Kd.R_putg HO_13.out (x54_3 : Int) (Go.bits .andNot .u64 (rd x7_2 x54_3) (ji34))) | ((with_reducible refine gate_store (t := 40) (p := 75) rfl ?_); refine store_event (t := 40) (p := 75) (v := ?vo_w41) (w1 := (w39.setCell ⟨go31, (x54_3 : Int).toNat, none⟩ (.int .u64 (Go.bits .andNot .u64 (rd x7_2 x54_3) (ji34))))) ?hg ?ho ?hn ?hr ?_; (case ho => rfl); (case hg => rfl); (case hn => rfl); (case hr => first | (go_simp; done) | (go_simp; rfl)); intro w41 hw; have hg : w39.grownBy w41 (some go31) := (by rw [hw]; exact HP40.2); have hp_ : Kd.R (Kd.int .u64) 40 w41 w.heap.size (fun k_ => some k_ ≠ (.slice (some ad196) x7_2.length co22 : Value).ownBlock) (.slice (some ⟨go31, 0, none⟩) x13_3.length co31) y199 := (by rw [hw, Ny199.out]; exact HP40.1); clear HP40; have n0_ := aM (Kd.R_over' (v := (.slice (some ⟨go31, 0, none⟩) x13_3.length co31)) (xR HO_11.out) (Kd.R_typed HO_13.out) (by decide) hg); have n1_ := aM (hp_); have n2_ := aM (Kd.R_after (v := (.slice (some ⟨go31, 0, none⟩) x13_3.length co31)) (v1 := (.slice (some ⟨go31, 0, none⟩) x13_3.length co31)) (ok := (fun _ => True)) (xR HO_52.out) hg (.inl rfl)); have n3_ := aM ((by rw [hw]; exact below_set (HB.out) GB31.out : Below w.heap.size w w41)); clear HO_11; clear HO_13; clear HO_52; clear HB; have HO_11 := n0_; have HO_13 := n1_; have HO_52 := n2_; have HB := n3_; clear n0_ n1_ n2_ n3_; clear hg hw hp_) | ((with_reducible refine gate_builtin (b := .append) (xs := #[.tmp 76, .tmp 79]) rfl ?_); (try (refine gate_guard (by rfl) ?_; dsimp only)); at_builtin; refine Kd.R_append (Kd.int .u8) (w0 := w) w.heap.size rfl (.tmp 76) (.tmp 79) 22 5 (.int .u8 0) 1 rfl Try.underlying22 info5 rfl (by decide) (by omega) u11 x11_3 ((x54_3) % 256) [.int .u8 ((x54_3) % 256)] (fun _ => True) (fun _ => False) rfl rfl ?aP (fun _ hk => hk.elim) ?aF ?aO ?aB ?aS ?aL ?_; (case aP => exact rfl); (case aB => exact (xB HB.out)); (case aF => exact (fun _ _ => trivial)); (case aO => exact (xR HO_11.out)); (case aS => exact (below_size (xB HB.out))); (case aL => have := LMc36.out; omega); intro v201 w42 ho hb hg hat; rw [← Ny200.out] at ho; have n0_ := aM (Kd.R_over' (xR HO_13.out) (Kd.R_typed (xR HO_11.out)) (by decide) hg); have n1_ := aM (Kd.R_over' (xR HO_52.out) (Kd.R_typed (xR HO_11.out)) (by decide) hg); have n2_ := aM (hb); have n3_ := aM (ho); clear HO_13; clear HO_52; clear HB; clear HO_11; have HO_13 := n0_; have HO_52 := n1_; have HB := n2_; have HO202 := n3_; clear n0_ n1_ n2_ n3_; clear ho hb hg hat; obtain ⟨Ao43, co43, eo43⟩ := Kd.R_slice HO202.out; subst eo43) | ((with_reducible refine gate_callee (f := 47) rfl ?_); refine goesL_ (some 82) rfl rfl Try.func47 (by kernel_rfl) rfl #[.slice Ao43 y200.length co43, .int .u64 t197] rfl (by (try simp only [List.map_toArray, List.map_cons, List.map_nil]); first | done | rfl | (simp only [List.length_drop, List.length_take]; rfl)) ?_; (with_reducible refine (num_Put.calls k3 _ _ y200 t197 t203 _ ?side1 ?side2 A37.out).mono ?_); (case side1 => exact xC ((Kd.R_reads' HO202.out).2.2)); (case side2 => exact (Kd.R_reads' HO202.out).2.1); rintro e w44 ⟨v204, rfl, ho0, hb⟩; refine ⟨_, rfl, ?_⟩; have n0_ := aM (Kd.R_below (xR HO_13.out) hb); have n1_ := aM (Kd.R_below (xR HO_52.out) hb); have n2_ := aM (Kd.R_elder' (xR HO202.out) (Kd.R_base ho0) hb); have n3_ := aM (Kd.R_lower (Kd.R_new' ho0 (Kd.R_lt (xR HO202.out))) (below_size (xB HB.out))); have n4_ := aM (below_step (xB HB.out) hb); clear HO_13; clear HO_52; clear HO202; clear HB; have HO_13 := n0_; have HO_52 := n1_; have HO202 := n2_; have HO205 := n3_; have HB := n4_; clear n0_ n1_ n2_ n3_ n4_; (try clear hb); (try clear hb2); (try clear hk); (try clear hi); (try clear ho0)))
                    go_roundg k3
                    case measure => have := HJ2.out; have := HK2.out; have := HK3.out; omega
                    case rel => exact ⟨(t203), (wrap64 (x12_3 + 1)), (y199), (wrap64 (x54_3 + 1)), (by first | rfl | (simp; done) | (simp [*]; done)), (by first | rfl | (simp; done) | (simp [*]; done)), H', ⟨by have := HJ2.out; have := HK2.out; have := HK3.out; omega⟩, ⟨by (with_reducible repeat (first | apply Kd.R_alloc | apply Kd.R_drewN | apply Kd.R_drew)); exact Kd.R_mono HO205.out (fun _ hk => trivial)⟩, ⟨by (with_reducible repeat (first | apply Kd.R_alloc | apply Kd.R_drewN | apply Kd.R_drew)); exact HO_13.out⟩, ⟨by (with_reducible repeat (first | apply Kd.R_alloc | apply Kd.R_drewN | apply Kd.R_drew)); exact Kd.R_mono HO_52.out (fun _ hk => hk.2)⟩, ⟨xB HB.out⟩⟩
                   ·
                    rw [if_neg c36] at H
                    exact absurd H (by simp)
                  ·
                   rw [if_neg c33] at H
                   exact absurd H (by simp)
                 ·
                  rw [if_neg c32] at H
                  have c32b0 : decide (0 < t197) = false := decide_eq_false c32
                  clear c32
                  have H' := aM H
                  clear H
                  have p196 : 0 ≤ (x54_3 : Int) := of_decide_eq_true (by first | (with_reducible assumption) | assumption)
                  have q196 : x54_3 < (x7_2.length : Int) := of_decide_eq_true (by first | (with_reducible assumption) | assumption)
                  obtain ⟨ad196, e196, hx196_0⟩ := Kd.at_int (Kd.R_reads' HO_52.out).2.2 x54_3 p196 q196
                  cases e196
                  replace p196 := eq_true p196
                  replace q196 := eq_true q196
                  go_wp2_with (first | ((with_reducible refine gate_callee (f := 78) rfl ?_); refine goesL_ (some 61) rfl rfl Try.func78 (by kernel_rfl) rfl #[.int .u64 (rd x7_2 x54_3), .int .i64 t192] rfl (by (try simp only [List.map_toArray, List.map_cons, List.map_nil]); first | done | rfl | (simp only [List.length_drop, List.length_take]; rfl)) ?_; (with_reducible refine (pfor_high.calls (rd x7_2 x54_3) t192 t197 _ A29.out).mono ?_); rintro e w' ⟨rfl, ⟨nd, rfl⟩⟩; refine ⟨_, rfl, ?_⟩; (try (rw [drewN_self wr]; generalize hq_ : World.drewN wr _ = wr; have n0_ : Aside0 (Kd.R (Kd.int .u8) 5 wr w.heap.size (fun _ => True) u11 x11_3) := ⟨by rw [← hq_]; exact (xR HO_11.out)⟩; have n1_ : Aside0 (Kd.R (Kd.int .u64) 40 wr w.heap.size (fun k_ => some k_ ≠ (.slice (some ad196) x7_2.length co22 : Value).ownBlock) v194 x13_3) := ⟨by rw [← hq_]; exact (xR HO_13.out)⟩; have n2_ : Aside0 (Kd.R (Kd.int .u64) 40 wr w.heap.size (fun k_ => some k_ ≠ (v194 : Value).ownBlock) (.slice (some ad196) x7_2.length co22) x7_2) := ⟨by rw [← hq_]; exact (xR HO_52.out)⟩; have n3_ : Aside0 (Below w.heap.size w wr) := ⟨by rw [← hq_]; exact (xB HB.out)⟩; clear HO_11 HO_13 HO_52 HB hq_; have HO_11 := n0_; have HO_13 := n1_; have HO_52 := n2_; have HB := n3_; clear n0_ n1_ n2_ n3_)); have p31 : 0 ≤ (x54_3 : Int) := of_decide_eq_true (by first | (with_reducible assumption) | assumption); have q31 : (x54_3 : Int) < ((x13_3.length : Int) : Int) := of_decide_eq_true (by first | (with_reducible assumption) | assumption); obtain ⟨go31, co31, eo31, gb31, gl31, cl31, HG31⟩ := Kd.R_form HO_13.out (by omega); (first | cases eo31 | (injection eo31 with ea_ en_ ec_; (first | subst ea_ | (injection ea_ with ea_; subst ea_)); subst ec_; clear en_)); have GB31 := aM gb31; have GG31 := aM HG31; clear gb31 gl31 HG31; obtain ⟨hx31_0, hf31_0⟩ := Kd.R_celln 0 HO_13.out (x54_3 : Int) p31 q31; replace p31 := eq_true p31; replace q31 := eq_true q31; obtain ⟨hy45_, hz45_⟩ := Kd.R_celln 0 HO_13.out (x54_3 : Int) (of_decide_eq_true (by first | (with_reducible assumption) | assumption)) (of_decide_eq_true (by first | (with_reducible assumption) | assumption)); have HP45 := Kd.R_putg HO_13.out (x54_3 : Int) (rd x7_2 x54_3)) | ((with_reducible refine gate_store (t := 40) (p := 65) rfl ?_); refine store_event (t := 40) (p := 65) (v := ?vo_w46) (w1 := (wr.setCell ⟨go31, (x54_3 : Int).toNat, none⟩ (.int .u64 (rd x7_2 x54_3)))) ?hg ?ho ?hn ?hr ?_; (case ho => rfl); (case hg => rfl); (case hn => rfl); (case hr => first | (go_simp; done) | (go_simp; rfl)); intro w46 hw; have hg : wr.grownBy w46 (some go31) := (by rw [hw]; exact HP45.2); have hp_ : Kd.R (Kd.int .u64) 40 w46 w.heap.size (fun k_ => some k_ ≠ (.slice (some ad196) x7_2.length co22 : Value).ownBlock) (.slice (some ⟨go31, 0, none⟩) x13_3.length co31) y198 := (by rw [hw, Ny198.out]; exact HP45.1); clear HP45; have n0_ := aM (Kd.R_over' (v := (.slice (some ⟨go31, 0, none⟩) x13_3.length co31)) (xR HO_11.out) (Kd.R_typed HO_13.out) (by decide) hg); have n1_ := aM (hp_); have n2_ := aM (Kd.R_after (v := (.slice (some ⟨go31, 0, none⟩) x13_3.length co31)) (v1 := (.slice (some ⟨go31, 0, none⟩) x13_3.length co31)) (ok := (fun _ => True)) (by (with_reducible repeat (first | apply Kd.R_alloc | apply Kd.R_drewN | apply Kd.R_drew)); exact Kd.R_mono HO_52.out (fun _ hk => ⟨trivial, hk⟩)) hg (.inl rfl)); have n3_ := aM ((by rw [hw]; exact below_set (HB.out) GB31.out : Below w.heap.size w w46)); clear HO_11; clear HO_13; clear HO_52; clear HB; have HO_11 := n0_; have HO_13 := n1_; have HO_52 := n2_; have HB := n3_; clear n0_ n1_ n2_ n3_; clear hg hw hp_))
                  go_roundg k3
                  case measure => have := HJ2.out; have := HK2.out; have := HK3.out; omega
                  case rel => exact ⟨(x11_3), (x12_3), (y198), (wrap64 (x54_3 + 1)), (by first | rfl | (simp; done) | (simp [*]; done)), (by first | rfl | (simp; done) | (simp [*]; done)), H', ⟨by have := HJ2.out; have := HK2.out; have := HK3.out; omega⟩, ⟨by (with_reducible repeat (first | apply Kd.R_alloc | apply Kd.R_drewN | apply Kd.R_drew)); exact HO_11.out⟩, ⟨by (with_reducible repeat (first | apply Kd.R_alloc | apply Kd.R_drewN | apply Kd.R_drew)); exact HO_13.out⟩, ⟨by (with_reducible repeat (first | apply Kd.R_alloc | apply Kd.R_drewN | apply Kd.R_drew)); exact Kd.R_mono HO_52.out (fun _ hk => hk.2)⟩, ⟨xB HB.out⟩⟩
                ·
                 rw [if_neg c30] at H
                 exact absurd H (by simp)
               ·
                rw [if_neg c28] at H
                exact absurd H (by simp)
              ·
               rw [if_neg c27] at H
               exact absurd H (by simp)
             ·
              rw [if_neg c26] at H
              have c26b0 : decide (x54_3 < (x7_2.length : Int)) = false := decide_eq_false c26
              clear c26
              replace H := Option.bind_eq_some_iff.mp H
              obtain ⟨⟨t206, t207⟩, A470, H⟩ := H
              replace H : (if t207 = 0 then ((slices_Clone_byte_byte.f l0).bind fun t210 => (if t210.length < 140737488355328 then ((num_Put.f k3 (t210 ++ [((l1.length : Int)) % 256]) t186).bind fun t216 => ((some (([(t192) % 256, (x12_3) % 256] : List Int) : List Int)).bind fun y219 => (if t216.length + y219.length < 140737488355328 then ((slices_Concat_byte_byte.f k3 (([(t216 ++ y219), t206, x11_3] : List (List Int)))).bind fun t228 => (some (t228, 0))) else (none)))) else (none))) else (some (([] : List Int), t207))) = some (r1, r2) := H
              have A47 := aM A470
              clear A470
              by_cases c48 : t207 = 0
              ·
               rw [if_pos c48] at H
               have c48b0 : (t207 == 0) = true := beq_iff_eq.mpr c48
               have c48b1 : (t207 != 0) = false := bne_eq_false_iff_eq.mpr c48
               clear c48
               replace H := Option.bind_eq_some_iff.mp H
               obtain ⟨t210, A490, H⟩ := H
               replace H : (if t210.length < 140737488355328 then ((num_Put.f k3 (t210 ++ [((l1.length : Int)) % 256]) t186).bind fun t216 => ((some (([(t192) % 256, (x12_3) % 256] : List Int) : List Int)).bind fun y219 => (if t216.length + y219.length < 140737488355328 then ((slices_Concat_byte_byte.f k3 (([(t216 ++ y219), t206, x11_3] : List (List Int)))).bind fun t228 => (some (t228, 0))) else (none)))) else (none)) = some (r1, r2) := H
               have A49 := aM A490
               clear A490
               by_cases c50 : t210.length < 140737488355328
               ·
                rw [if_pos c50] at H
                have LMc50 := aM c50
                clear c50
                obtain ⟨y213, hy213⟩ : ∃ y_ : List Int, y_ = (t210 ++ [((l1.length : Int)) % 256]) := ⟨_, rfl⟩
                replace H : ((num_Put.f k3 y213 t186).bind fun t216 => ((some (([(t192) % 256, (x12_3) % 256] : List Int) : List Int)).bind fun y219 => (if t216.length + y219.length < 140737488355328 then ((slices_Concat_byte_byte.f k3 (([(t216 ++ y219), t206, x11_3] : List (List Int)))).bind fun t228 => (some (t228, 0))) else (none)))) = some (r1, r2) := by first | (rw [hy213]; with_reducible exact H) | (have H2_ := (Option.bind_some _ _).symm.trans H; rw [hy213]; with_reducible exact H2_) | (have H2_ := (Option.bind_some _ _).symm.trans H; with_reducible exact H2_) | with_reducible exact H | (rw [hy213]; exact H) | exact H
                have Ny213 := aM hy213
                clear hy213
                replace H := Option.bind_eq_some_iff.mp H
                obtain ⟨t216, A510, H⟩ := H
                replace H : ((some (([(t192) % 256, (x12_3) % 256] : List Int) : List Int)).bind fun y219 => (if t216.length + y219.length < 140737488355328 then ((slices_Concat_byte_byte.f k3 (([(t216 ++ y219), t206, x11_3] : List (List Int)))).bind fun t228 => (some (t228, 0))) else (none))) = some (r1, r2) := H
                have A51 := aM A510
                clear A510
                obtain ⟨y219, hy219⟩ : ∃ y_ : List Int, y_ = (([(t192) % 256, (x12_3) % 256] : List Int)) := ⟨_, rfl⟩
                replace H : (if t216.length + y219.length < 140737488355328 then ((slices_Concat_byte_byte.f k3 (([(t216 ++ y219), t206, x11_3] : List (List Int)))).bind fun t228 => (some (t228, 0))) else (none)) = some (r1, r2) := by first | (rw [hy219]; with_reducible exact H) | (have H2_ := (Option.bind_some _ _).symm.trans H; rw [hy219]; with_reducible exact H2_) | (have H2_ := (Option.bind_some _ _).symm.trans H; with_reducible exact H2_) | with_reducible exact H | (rw [hy219]; exact H) | exact H
                have Ny219 := aM hy219
                clear hy219
                by_cases c52 : t216.length + y219.length < 140737488355328
                ·
                 rw [if_pos c52] at H
                 have LMc52 := aM c52
                 clear c52
                 obtain ⟨y222, hy222⟩ : ∃ y_ : List Int, y_ = (t216 ++ y219) := ⟨_, rfl⟩
                 replace H : ((slices_Concat_byte_byte.f k3 (([y222, t206, x11_3] : List (List Int)))).bind fun t228 => (some (t228, 0))) = some (r1, r2) := by first | (rw [hy222]; with_reducible exact H) | (have H2_ := (Option.bind_some _ _).symm.trans H; rw [hy222]; with_reducible exact H2_) | (have H2_ := (Option.bind_some _ _).symm.trans H; with_reducible exact H2_) | with_reducible exact H | (rw [hy222]; exact H) | exact H
                 have Ny222 := aM hy222
                 clear hy222
                 obtain ⟨y225, hy225⟩ : ∃ y_ : List (List Int), y_ = (([y222, t206, x11_3] : List (List Int))) := ⟨_, rfl⟩
                 replace H : ((slices_Concat_byte_byte.f k3 y225).bind fun t228 => (some (t228, 0))) = some (r1, r2) := by first | (rw [hy225]; with_reducible exact H) | (have H2_ := (Option.bind_some _ _).symm.trans H; rw [hy225]; with_reducible exact H2_) | (have H2_ := (Option.bind_some _ _).symm.trans H; with_reducible exact H2_) | with_reducible exact H | (rw [hy225]; exact H) | exact H
                 have Ny225 := aM hy225
                 clear hy225
                 replace H := Option.bind_eq_some_iff.mp H
                 obtain ⟨t228, A530, H⟩ := H
                 replace H : (some (t228, 0)) = some (r1, r2) := H
                 have A53 := aM A530
                 clear A530
                 simp only [Option.some.injEq, Prod.mk.injEq] at H
                 obtain ⟨rfl, rfl⟩ := H
                 obtain ⟨Ao54, co54, eo54⟩ := Kd.R_slice HO_13.out
                 subst eo54
                 go_wp2_with (first | ((with_reducible refine gate_callee (f := 79) rfl ?_); refine goesL_ (some 89) rfl rfl Try.func79 (by kernel_rfl) rfl #[.slice Ao54 x13_3.length co54, .int .i64 t192] rfl (by (try simp only [List.map_toArray, List.map_cons, List.map_nil]); first | done | rfl | (simp only [List.length_drop, List.length_take]; rfl)) ?_; (with_reducible refine (bits_Pack.calls k3 _ _ x13_3 t192 t206 t207 _ ?side1 ?side2 A47.out).mono ?_); (case side1 => exact xC ((Kd.R_reads' HO_13.out).2.2)); (case side2 => exact (Kd.R_reads' HO_13.out).2.1); rintro e w55 ⟨v208, rfl, ho0, hb⟩; refine ⟨_, rfl, ?_⟩; have n0_ := aM (Kd.R_elder' (xR HO_11.out) (Kd.R_base ho0) hb); have n1_ := aM (Kd.R_below (xR HO_13.out) hb); have n2_ := aM (Kd.R_below (xR HO_52.out) hb); have n3_ := aM (Kd.R_lower (Kd.R_new' ho0 (Kd.R_lt (xR HO_11.out))) (below_size (xB HB.out))); have n4_ := aM (below_step (xB HB.out) hb); clear HO_11; clear HO_13; clear HO_52; clear HB; have HO_11 := n0_; have HO_13 := n1_; have HO_52 := n2_; have HO209 := n3_; have HB := n4_; clear n0_ n1_ n2_ n3_ n4_; (try clear hb); (try clear hb2); (try clear hk); (try clear hi); (try clear ho0)) | ((with_reducible refine gate_callee (f := 60) rfl ?_); refine goesL_ (some 96) rfl rfl Try.func60 (by kernel_rfl) rfl #[.slice A0 l0.length c0] rfl (by (try simp only [List.map_toArray, List.map_cons, List.map_nil]); first | done | rfl | (simp only [List.length_drop, List.length_take]; rfl)) ?_; (with_reducible refine (slices_Clone_byte_byte.calls _ _ l0 t210 _ ?side1 ?side2 A49.out).mono ?_); (case side1 => exact xC (Kd.C_below HR0.out HB.out)); (case side2 => exact HC0.out); rintro e w56 ⟨v211, rfl, ho0, hb⟩; refine ⟨_, rfl, ?_⟩; have n0_ := aM (Kd.R_elder' (xR HO_11.out) (Kd.R_base ho0) hb); have n1_ := aM (Kd.R_below (xR HO_13.out) hb); have n2_ := aM (Kd.R_below (xR HO_52.out) hb); have n3_ := aM (Kd.R_elder' (xR HO209.out) (Kd.R_base ho0) hb); have n4_ := aM (Kd.R_lower (Kd.R_new' (Kd.R_new' ho0 (Kd.R_lt (xR HO_11.out))) (Kd.R_lt (xR HO209.out))) (below_size (xB HB.out))); have n5_ := aM (below_step (xB HB.out) hb); clear HO_11; clear HO_13; clear HO_52; clear HO209; clear HB; have HO_11 := n0_; have HO_13 := n1_; have HO_52 := n2_; have HO209 := n3_; have HO212 := n4_; have HB := n5_; clear n0_ n1_ n2_ n3_ n4_ n5_; (try clear hb); (try clear hb2); (try clear hk); (try clear hi); (try clear ho0)) | ((with_reducible refine gate_builtin (b := .append) (xs := #[.tmp 96, .tmp 100]) rfl ?_); (try (refine gate_guard (by rfl) ?_; dsimp only)); at_builtin; refine Kd.R_append (Kd.int .u8) (w0 := w) w.heap.size rfl (.tmp 96) (.tmp 100) 22 5 (.int .u8 0) 1 rfl Try.underlying22 info5 rfl (by decide) (by omega) v211 t210 (((l1.length : Int)) % 256) [.int .u8 (((l1.length : Int)) % 256)] (fun k_ => some k_ ≠ (u11 : Value).ownBlock ∧ some k_ ≠ (v208 : Value).ownBlock) (fun _ => False) rfl rfl ?aP (fun _ hk => hk.elim) ?aF ?aO ?aB ?aS ?aL ?_; (case aP => exact rfl); (case aB => exact (xB HB.out)); (case aF => exact (fun k_ hk => ⟨Kd.fresh' (Kd.R_lt (xR HO_11.out)) k_ hk, Kd.fresh' (Kd.R_lt (xR HO209.out)) k_ hk⟩)); (case aO => exact (by (with_reducible repeat (first | apply Kd.R_alloc | apply Kd.R_drewN | apply Kd.R_drew)); exact Kd.R_mono HO212.out (fun _ hk => ⟨hk.1.2, hk.2⟩))); (case aS => exact (below_size (xB HB.out))); (case aL => have := LMc50.out; omega); intro v214 w57 ho hb hg hat; rw [← Ny213.out] at ho; have n0_ := aM (Kd.R_after (ok := (fun k_ => some k_ ≠ (v208 : Value).ownBlock)) (by (with_reducible repeat (first | apply Kd.R_alloc | apply Kd.R_drewN | apply Kd.R_drew)); exact Kd.R_mono HO_11.out (fun _ hk => ⟨hk.1.2, hk.2⟩)) hg hat); have n1_ := aM (Kd.R_over' (xR HO_13.out) (Kd.R_typed (xR HO212.out)) (by decide) hg); have n2_ := aM (Kd.R_over' (xR HO_52.out) (Kd.R_typed (xR HO212.out)) (by decide) hg); have n3_ := aM (Kd.R_after (ok := (fun k_ => some k_ ≠ (u11 : Value).ownBlock)) (by (with_reducible repeat (first | apply Kd.R_alloc | apply Kd.R_drewN | apply Kd.R_drew)); exact Kd.R_mono HO209.out (fun _ hk => ⟨hk.1.2, hk.2⟩)) hg hat); have n4_ := aM (hb); have n5_ := aM (ho); clear HO_11; clear HO_13; clear HO_52; clear HO209; clear HB; clear HO212; have HO_11 := n0_; have HO_13 := n1_; have HO_52 := n2_; have HO209 := n3_; have HB := n4_; have HO215 := n5_; clear n0_ n1_ n2_ n3_ n4_ n5_; clear ho hb hg hat; obtain ⟨Ao58, co58, eo58⟩ := Kd.R_slice HO215.out; subst eo58) | ((with_reducible refine gate_callee (f := 47) rfl ?_); refine goesL_ (some 103) rfl rfl Try.func47 (by kernel_rfl) rfl #[.slice Ao58 y213.length co58, .int .u64 t186] rfl (by (try simp only [List.map_toArray, List.map_cons, List.map_nil]); first | done | rfl | (simp only [List.length_drop, List.length_take]; rfl)) ?_; (with_reducible refine (num_Put.calls k3 _ _ y213 t186 t216 _ ?side1 ?side2 A51.out).mono ?_); (case side1 => exact xC ((Kd.R_reads' HO215.out).2.2)); (case side2 => exact (Kd.R_reads' HO215.out).2.1); rintro e w59 ⟨v217, rfl, ho0, hb⟩; refine ⟨_, rfl, ?_⟩; have n0_ := aM (Kd.R_elder' (xR HO_11.out) (Kd.R_base ho0) hb); have n1_ := aM (Kd.R_below (xR HO_13.out) hb); have n2_ := aM (Kd.R_below (xR HO_52.out) hb); have n3_ := aM (Kd.R_elder' (xR HO209.out) (Kd.R_base ho0) hb); have n4_ := aM (Kd.R_elder' (xR HO215.out) (Kd.R_base ho0) hb); have n5_ := aM (Kd.R_lower (Kd.R_new' (Kd.R_new' (Kd.R_new' ho0 (Kd.R_lt (xR HO_11.out))) (Kd.R_lt (xR HO209.out))) (Kd.R_lt (xR HO215.out))) (below_size (xB HB.out))); have n6_ := aM (below_step (xB HB.out) hb); clear HO_11; clear HO_13; clear HO_52; clear HO209; clear HO215; clear HB; have HO_11 := n0_; have HO_13 := n1_; have HO_52 := n2_; have HO209 := n3_; have HO215 := n4_; have HO218 := n5_; have HB := n6_; clear n0_ n1_ n2_ n3_ n4_ n5_ n6_; (try clear hb); (try clear hb2); (try clear hk); (try clear hi); (try clear ho0)) | ((with_reducible refine gate_dst (N := 109) rfl ?_); (try (refine gate_guard (by rfl) ?_; dsimp only)); refine Kd.R_lit (Kd.int .u8) _ 5 ?hg (N := 109) ?hd (xs := ([(t192) % 256, (x12_3) % 256] : List Int)) (inner := [.int .u8 ((t192) % 256), .int .u8 ((x12_3) % 256)]) (ok := fun _ => True) (okp := fun _ => True) ?hr ?hp (fun _ hk => hk) trivial (Below.refl _ _) (Nat.le_refl _) (by simp) ?_; (case hd => rfl); (case hg => rfl); (case hr => first | (go_simp; done) | (go_simp; rfl)); (case hp => exact (Reps.one (show Kd.M (Kd.int .u8) _ _ _ ((t192) % 256) [.int .u8 ((t192) % 256)] from rfl) (Reps.one (show Kd.M (Kd.int .u8) _ _ _ ((x12_3) % 256) [.int .u8 ((x12_3) % 256)] from rfl) (Reps.none _ _)))); intro v220 w60 ho61 hb hg_ hnew_; clear hg_ hnew_; (first | rw [← Ny219.out] at ho61 | (simp only [Int.reduceToNat] at ho61; rw [← Ny219.out] at ho61)); have n0_ := aM (Kd.R_elder' (xR HO_11.out) (Kd.R_base ho61) hb); have n1_ := aM (Kd.R_below (xR HO_13.out) hb); have n2_ := aM (Kd.R_below (xR HO_52.out) hb); have n3_ := aM (Kd.R_elder' (xR HO209.out) (Kd.R_base ho61) hb); have n4_ := aM (Kd.R_elder' (xR HO215.out) (Kd.R_base ho61) hb); have n5_ := aM (Kd.R_elder' (xR HO218.out) (Kd.R_base ho61) hb); have n6_ := aM (Kd.R_lower (Kd.R_new' (Kd.R_new' (Kd.R_new' (Kd.R_new' ho61 (Kd.R_lt (xR HO_11.out))) (Kd.R_lt (xR HO209.out))) (Kd.R_lt (xR HO215.out))) (Kd.R_lt (xR HO218.out))) (below_size (xB HB.out))); have n7_ := aM (below_step (xB HB.out) hb); clear HO_11; clear HO_13; clear HO_52; clear HO209; clear HO215; clear HO218; clear HB; have HO_11 := n0_; have HO_13 := n1_; have HO_52 := n2_; have HO209 := n3_; have HO215 := n4_; have HO218 := n5_; have HO221 := n6_; have HB := n7_; clear n0_ n1_ n2_ n3_ n4_ n5_ n6_ n7_; clear hb ho61; obtain ⟨Ao63, co63, eo63⟩ := Kd.R_slice HO221.out; subst eo63) | ((with_reducible refine gate_builtin (b := .append) (xs := #[.tmp 104, .tmp 109]) rfl ?_); (try (refine gate_guard (by rfl) ?_; dsimp only)); at_builtin; refine Kd.R_append_rows (Kd.int .u8) (w0 := w) w.heap.size rfl (.tmp 104) (.tmp 109) 22 5 (.int .u8 0) 1 rfl Try.underlying22 info5 rfl (by decide) (by omega) v217 t216 y219 _ _ _ (fun k_ => some k_ ≠ (u11 : Value).ownBlock ∧ some k_ ≠ (v208 : Value).ownBlock ∧ some k_ ≠ (.slice Ao58 y213.length co58 : Value).ownBlock ∧ some k_ ≠ (.slice Ao63 y219.length co63 : Value).ownBlock) (fun _ => False) rfl rfl ?aO ?aR (fun _ _ h => h) (fun _ h => h.elim) ?aF ?aB ?aS ?aL ?_; (case aR => exact xC ((Kd.R_reads' HO221.out).2.2)); (case aB => exact (xB HB.out)); (case aF => exact (fun k_ hk => ⟨Kd.fresh' (Kd.R_lt (xR HO_11.out)) k_ hk, Kd.fresh' (Kd.R_lt (xR HO209.out)) k_ hk, Kd.fresh' (Kd.R_lt (xR HO215.out)) k_ hk, Kd.fresh' (Kd.R_lt (xR HO221.out)) k_ hk⟩)); (case aO => exact (by (with_reducible repeat (first | apply Kd.R_alloc | apply Kd.R_drewN | apply Kd.R_drew)); exact Kd.R_mono HO218.out (fun _ hk => ⟨hk.1.1.1.2, ⟨hk.1.1.2, ⟨hk.1.2, hk.2⟩⟩⟩))); (case aS => exact (below_size (xB HB.out))); (case aL => have := LMc52.out; omega); intro v223 w62 ho hb hg hat; rw [← Ny222.out] at ho; have n0_ := aM (Kd.R_after (ok := (fun k_ => some k_ ≠ (v208 : Value).ownBlock ∧ some k_ ≠ (.slice Ao58 y213.length co58 : Value).ownBlock ∧ some k_ ≠ (.slice Ao63 y219.length co63 : Value).ownBlock)) (by (with_reducible repeat (first | apply Kd.R_alloc | apply Kd.R_drewN | apply Kd.R_drew)); exact Kd.R_mono HO_11.out (fun _ hk => ⟨⟨hk.1.1.1, ⟨hk.1.1.2, hk.2⟩⟩, hk.1.2⟩)) hg hat); have n1_ := aM (Kd.R_over' (xR HO_13.out) (Kd.R_typed (xR HO218.out)) (by decide) hg); have n2_ := aM (Kd.R_over' (xR HO_52.out) (Kd.R_typed (xR HO218.out)) (by decide) hg); have n3_ := aM (Kd.R_after (ok := (fun k_ => some k_ ≠ (u11 : Value).ownBlock ∧ some k_ ≠ (.slice Ao58 y213.length co58 : Value).ownBlock ∧ some k_ ≠ (.slice Ao63 y219.length co63 : Value).ownBlock)) (by (with_reducible repeat (first | apply Kd.R_alloc | apply Kd.R_drewN | apply Kd.R_drew)); exact Kd.R_mono HO209.out (fun _ hk => ⟨⟨hk.1.1.1, ⟨hk.1.1.2, hk.2⟩⟩, hk.1.2⟩)) hg hat); have n4_ := aM (Kd.R_after (ok := (fun k_ => some k_ ≠ (u11 : Value).ownBlock ∧ some k_ ≠ (v208 : Value).ownBlock ∧ some k_ ≠ (.slice Ao63 y219.length co63 : Value).ownBlock)) (by (with_reducible repeat (first | apply Kd.R_alloc | apply Kd.R_drewN | apply Kd.R_drew)); exact Kd.R_mono HO215.out (fun _ hk => ⟨⟨hk.1.1.1, ⟨hk.1.1.2, hk.2⟩⟩, hk.1.2⟩)) hg hat); have n5_ := aM (Kd.R_after (ok := (fun k_ => some k_ ≠ (u11 : Value).ownBlock ∧ some k_ ≠ (v208 : Value).ownBlock ∧ some k_ ≠ (.slice Ao58 y213.length co58 : Value).ownBlock)) (by (with_reducible repeat (first | apply Kd.R_alloc | apply Kd.R_drewN | apply Kd.R_drew)); exact Kd.R_mono HO221.out (fun _ hk => ⟨⟨hk.1.1.1.2, ⟨hk.1.1.2, hk.1.2⟩⟩, hk.2⟩)) hg hat); have n6_ := aM (hb); have n7_ := aM (ho); clear HO_11; clear HO_13; clear HO_52; clear HO209; clear HO215; clear HO221; clear HB; clear HO218; have HO_11 := n0_; have HO_13 := n1_; have HO_52 := n2_; have HO209 := n3_; have HO215 := n4_; have HO221 := n5_; have HB := n6_; have HO224 := n7_; clear n0_ n1_ n2_ n3_ n4_ n5_ n6_ n7_; clear ho hb hg hat; obtain ⟨Ao64, co64, eo64⟩ := Kd.R_slice HO224.out; subst eo64; obtain ⟨Ao65, co65, eo65⟩ := Kd.R_slice HO209.out; subst eo65; obtain ⟨Ao66, co66, eo66⟩ := Kd.R_slice HO_11.out; subst eo66) | ((with_reducible refine gate_dst (N := 114) rfl ?_); (try (refine gate_guard (by rfl) ?_; dsimp only)); refine Kd.N_lit (Kd.slice 5 (Kd.int .u8)) _ 22 ?hg (N' := 114) ?hd (xs := ([y222, t206, x11_3] : List (List Int))) (inner := [.slice Ao64 y222.length co64, .slice Ao65 t206.length co65, .slice Ao66 x11_3.length co66]) (ok := (fun k_ => some k_ ≠ (.slice Ao54 x13_3.length co54 : Value).ownBlock ∧ some k_ ≠ (.slice Ao22 x7_2.length co22 : Value).ownBlock ∧ some k_ ≠ (.slice Ao58 y213.length co58 : Value).ownBlock ∧ some k_ ≠ (.slice Ao63 y219.length co63 : Value).ownBlock)) (okp := (fun k_ => some k_ ≠ (.slice Ao54 x13_3.length co54 : Value).ownBlock ∧ some k_ ≠ (.slice Ao22 x7_2.length co22 : Value).ownBlock ∧ some k_ ≠ (.slice Ao58 y213.length co58 : Value).ownBlock ∧ some k_ ≠ (.slice Ao63 y219.length co63 : Value).ownBlock)) ?hr ?hp (fun _ hk => hk) ((show ∀ k_, w62.heap.size ≤ k_ → (fun k_ => some k_ ≠ (.slice Ao54 x13_3.length co54 : Value).ownBlock ∧ some k_ ≠ (.slice Ao22 x7_2.length co22 : Value).ownBlock ∧ some k_ ≠ (.slice Ao58 y213.length co58 : Value).ownBlock ∧ some k_ ≠ (.slice Ao63 y219.length co63 : Value).ownBlock) k_ from fun k_ hk => ⟨Kd.fresh' (Kd.R_lt (xR HO_13.out)) k_ hk, Kd.fresh' (Kd.R_lt (xR HO_52.out)) k_ hk, Kd.fresh' (Kd.R_lt (xR HO215.out)) k_ hk, Kd.fresh' (Kd.R_lt (xR HO221.out)) k_ hk⟩) _ (Nat.le_refl _)) (Below.refl _ _) (Nat.le_refl _) (by simp) ?_; (case hd => rfl); (case hg => rfl); (case hr => first | (go_simp; done) | (go_simp; rfl)); (case hp => exact (Reps.one (show Kd.FK (Kd.slice 5 (Kd.int .u8)) _ _ y222 [.slice Ao64 y222.length co64] from (Kd.FK_slice_mk (Kd.R_reads' (Kd.R_mono (ok' := (fun k_ => some k_ ≠ (.slice Ao54 x13_3.length co54 : Value).ownBlock ∧ some k_ ≠ (.slice Ao22 x7_2.length co22 : Value).ownBlock ∧ some k_ ≠ (.slice Ao58 y213.length co58 : Value).ownBlock ∧ some k_ ≠ (.slice Ao63 y219.length co63 : Value).ownBlock)) (Kd.R_apart' (Kd.R_apart' (HO224.out) (Kd.R_typed HO_13.out) (by decide)) (Kd.R_typed HO_52.out) (by decide)) (fun k_ hk => ⟨hk.1.2, ⟨hk.2, ⟨hk.1.1.2.2.1, hk.1.1.2.2.2⟩⟩⟩))).2.1 (Kd.R_F (Kd.R_mono (ok' := (fun k_ => some k_ ≠ (.slice Ao54 x13_3.length co54 : Value).ownBlock ∧ some k_ ≠ (.slice Ao22 x7_2.length co22 : Value).ownBlock ∧ some k_ ≠ (.slice Ao58 y213.length co58 : Value).ownBlock ∧ some k_ ≠ (.slice Ao63 y219.length co63 : Value).ownBlock)) (Kd.R_apart' (Kd.R_apart' (HO224.out) (Kd.R_typed HO_13.out) (by decide)) (Kd.R_typed HO_52.out) (by decide)) (fun k_ hk => ⟨hk.1.2, ⟨hk.2, ⟨hk.1.1.2.2.1, hk.1.1.2.2.2⟩⟩⟩))))) (Reps.one (show Kd.FK (Kd.slice 5 (Kd.int .u8)) _ _ t206 [.slice Ao65 t206.length co65] from (Kd.FK_slice_mk (Kd.R_reads' (Kd.R_mono (ok' := (fun k_ => some k_ ≠ (.slice Ao54 x13_3.length co54 : Value).ownBlock ∧ some k_ ≠ (.slice Ao22 x7_2.length co22 : Value).ownBlock ∧ some k_ ≠ (.slice Ao58 y213.length co58 : Value).ownBlock ∧ some k_ ≠ (.slice Ao63 y219.length co63 : Value).ownBlock)) (Kd.R_apart' (Kd.R_apart' (HO209.out) (Kd.R_typed HO_13.out) (by decide)) (Kd.R_typed HO_52.out) (by decide)) (fun k_ hk => ⟨hk.1.2, ⟨hk.2, ⟨hk.1.1.1.2.1, hk.1.1.1.2.2⟩⟩⟩))).2.1 (Kd.R_F (Kd.R_mono (ok' := (fun k_ => some k_ ≠ (.slice Ao54 x13_3.length co54 : Value).ownBlock ∧ some k_ ≠ (.slice Ao22 x7_2.length co22 : Value).ownBlock ∧ some k_ ≠ (.slice Ao58 y213.length co58 : Value).ownBlock ∧ some k_ ≠ (.slice Ao63 y219.length co63 : Value).ownBlock)) (Kd.R_apart' (Kd.R_apart' (HO209.out) (Kd.R_typed HO_13.out) (by decide)) (Kd.R_typed HO_52.out) (by decide)) (fun k_ hk => ⟨hk.1.2, ⟨hk.2, ⟨hk.1.1.1.2.1, hk.1.1.1.2.2⟩⟩⟩))))) (Reps.one (show Kd.FK (Kd.slice 5 (Kd.int .u8)) _ _ x11_3 [.slice Ao66 x11_3.length co66] from (Kd.FK_slice_mk (Kd.R_reads' (Kd.R_mono (ok' := (fun k_ => some k_ ≠ (.slice Ao54 x13_3.length co54 : Value).ownBlock ∧ some k_ ≠ (.slice Ao22 x7_2.length co22 : Value).ownBlock ∧ some k_ ≠ (.slice Ao58 y213.length co58 : Value).ownBlock ∧ some k_ ≠ (.slice Ao63 y219.length co63 : Value).ownBlock)) (Kd.R_apart' (Kd.R_apart' (HO_11.out) (Kd.R_typed HO_13.out) (by decide)) (Kd.R_typed HO_52.out) (by decide)) (fun k_ hk => ⟨hk.1.2, ⟨hk.2, ⟨hk.1.1.1.2.1, hk.1.1.1.2.2⟩⟩⟩))).2.1 (Kd.R_F (Kd.R_mono (ok' := (fun k_ => some k_ ≠ (.slice Ao54 x13_3.length co54 : Value).ownBlock ∧ some k_ ≠ (.slice Ao22 x7_2.length co22 : Value).ownBlock ∧ some k_ ≠ (.slice Ao58 y213.length co58 : Value).ownBlock ∧ some k_ ≠ (.slice Ao63 y219.length co63 : Value).ownBlock)) (Kd.R_apart' (Kd.R_apart' (HO_11.out) (Kd.R_typed HO_13.out) (by decide)) (Kd.R_typed HO_52.out) (by decide)) (fun k_ hk => ⟨hk.1.2, ⟨hk.2, ⟨hk.1.1.1.2.1, hk.1.1.1.2.2⟩⟩⟩))))) (Reps.none _ _))))); intro v226 w67 ho68 hb hg_ hnew_; clear hg_ hnew_; (first | rw [← Ny225.out] at ho68 | (simp only [Int.reduceToNat] at ho68; rw [← Ny225.out] at ho68)); have n0_ := aM (Kd.R_below (xR HO_13.out) hb); have n1_ := aM (Kd.R_below (xR HO_52.out) hb); have n2_ := aM (Kd.R_below (xR HO215.out) hb); have n3_ := aM (Kd.R_below (xR HO221.out) hb); have n4_ := aM (Kd.N_lower ho68 (below_size (xB HB.out))); have n5_ := aM (below_step (xB HB.out) hb); clear HO_13; clear HO_52; clear HO215; clear HO221; clear HB; clear HO209; clear HO224; clear HO_11; have HO_13 := n0_; have HO_52 := n1_; have HO215 := n2_; have HO221 := n3_; have HO227 := n4_; have HB := n5_; clear n0_ n1_ n2_ n3_ n4_ n5_; clear hb ho68; obtain ⟨Ao69, co69, eo69⟩ := Kd.N_slice HO227.out; subst eo69) | ((with_reducible refine gate_callee (f := 80) rfl ?_); refine goesL_ (some 115) rfl rfl Try.func80 (by kernel_rfl) rfl #[.slice Ao69 y225.length co69] rfl (by (try simp only [List.map_toArray, List.map_cons, List.map_nil]); first | done | rfl | (simp only [List.length_drop, List.length_take]; rfl)) ?_; (with_reducible refine (slices_Concat_byte_byte.calls k3 _ _ y225 t228 _ ?side1 ?side2 A53.out).mono ?_); (case side1 => exact xC ((Kd.N_reads' HO227.out).2.2)); (case side2 => exact (Kd.N_reads' HO227.out).2.1); rintro e w70 ⟨v229, rfl, ho0, hb⟩; refine ⟨_, rfl, ?_⟩; have n0_ := aM (Kd.R_below (xR HO_13.out) hb); have n1_ := aM (Kd.R_below (xR HO_52.out) hb); have n2_ := aM (Kd.R_elder' (xR HO215.out) (Kd.R_base ho0) hb); have n3_ := aM (Kd.R_elder' (xR HO221.out) (Kd.R_base ho0) hb); have n4_ := aM (Kd.N_elder' (xN HO227.out) (Kd.R_base ho0) hb); have n5_ := aM (Kd.R_lower (Kd.R_new' (Kd.R_new' ho0 (Kd.R_lt (xR HO215.out))) (Kd.R_lt (xR HO221.out))) (below_size (xB HB.out))); have n6_ := aM (below_step (xB HB.out) hb); clear HO_13; clear HO_52; clear HO215; clear HO221; clear HO227; clear HB; have HO_13 := n0_; have HO_52 := n1_; have HO215 := n2_; have HO221 := n3_; have HO227 := n4_; have HO230 := n5_; have HB := n6_; clear n0_ n1_ n2_ n3_ n4_ n5_ n6_; (try clear hb); (try clear hb2); (try clear hk); (try clear hi); (try clear ho0)))
                 go_ret2
                 exact ⟨_, by first | rfl | (simp [errW_none, errW_some] <;> rfl) | (simp [*, errW_none, errW_some] <;> rfl), by (with_reducible repeat (first | apply Kd.R_alloc | apply Kd.R_drewN | apply Kd.R_drew)); exact Kd.R_mono HO230.out (fun _ hk => trivial), xB HB.out⟩
                ·
                 rw [if_neg c52] at H
                 exact absurd H (by simp)
               ·
                rw [if_neg c50] at H
                exact absurd H (by simp)
              ·
               rw [if_neg c48] at H
               have c48b0 : (t207 == 0) = false := beq_eq_false_iff_ne.mpr c48
               have c48b1 : (t207 != 0) = true := bne_iff_ne.mpr c48
               simp only [Option.some.injEq, Prod.mk.injEq] at H
               obtain ⟨rfl, rfl⟩ := H
               obtain ⟨Ao71, co71, eo71⟩ := Kd.R_slice HO_13.out
               subst eo71
               go_wp2_with (first | ((with_reducible refine gate_callee (f := 79) rfl ?_); refine goesL_ (some 89) rfl rfl Try.func79 (by kernel_rfl) rfl #[.slice Ao71 x13_3.length co71, .int .i64 t192] rfl (by (try simp only [List.map_toArray, List.map_cons, List.map_nil]); first | done | rfl | (simp only [List.length_drop, List.length_take]; rfl)) ?_; (with_reducible refine (bits_Pack.calls k3 _ _ x13_3 t192 t206 t207 _ ?side1 ?side2 A47.out).mono ?_); (case side1 => exact xC ((Kd.R_reads' HO_13.out).2.2)); (case side2 => exact (Kd.R_reads' HO_13.out).2.1); rintro e w72 ⟨v208, rfl, ho0, hb⟩; refine ⟨_, rfl, ?_⟩; have n0_ := aM (Kd.R_elder' (xR HO_11.out) (Kd.R_base ho0) hb); have n1_ := aM (Kd.R_below (xR HO_13.out) hb); have n2_ := aM (Kd.R_below (xR HO_52.out) hb); have n3_ := aM (Kd.R_lower (Kd.R_new' ho0 (Kd.R_lt (xR HO_11.out))) (below_size (xB HB.out))); have n4_ := aM (below_step (xB HB.out) hb); clear HO_11; clear HO_13; clear HO_52; clear HB; have HO_11 := n0_; have HO_13 := n1_; have HO_52 := n2_; have HO209 := n3_; have HB := n4_; clear n0_ n1_ n2_ n3_ n4_; (try clear hb); (try clear hb2); (try clear hk); (try clear hi); (try clear ho0)))
               go_ret2
               exact ⟨_, by first | rfl | (simp [errW_none, errW_some] <;> rfl) | (simp [*, errW_none, errW_some] <;> rfl), by first | exact Kd.R_nil _ _ _ _ _ | exact Kd.N_nil _ _ _ _ _ | exact Kd.V_nil _ _ _ _ _ | exact Kd.Q_nil _ _ _ _ _ | exact Kd.S_nil _ _ _ _ _, xB HB.out⟩
          ·
           rw [if_neg c21] at H
           exact absurd H (by simp)
         ·
          rw [if_neg c20] at H
          exact absurd H (by simp)
     ·
      rw [if_neg c8] at H
      exact absurd H (by simp)
    ·
     rw [if_neg c7] at H
     exact absurd H (by simp)
end Go.Proofs.Ythaifibhflfpkaa.Q
end
section
namespace Go.Proofs.YthaifibhflfpkaaX
open Go.RowKit Go.Maps Go.Proofs.YthaifibhflfpkaaW.PrintWords Go.Proofs.YthaifibhflfpkaaW.PrintLast Go.Proofs.YthaifibhflfpkaaW.PrintMore
def MapF {κ ν : Type} (P : Program) (k e : TypeId) (kk : κ → Lit) (vv : ν → Lit) (w : World) (b n : Nat) (g : κ → Option ν) : Prop :=
  ∃ D : DataW Unit, w.ownsMap P k (plainElem P e) b n D ∧ ∀ x, has D (kk x) = (g x).isSome ∧ ∀ zd, D.atKey (kk x) zd = match g x with | some c => .lit (vv c) | none => zd
def upd {κ ν : Type} [DecidableEq κ] (g : κ → Option ν) (x : κ) (v : ν) : κ → Option ν := fun y => if y = x then some v else g y
section
variable {κ ν : Type} {P : Program} {k e : TypeId} {kk : κ → Lit} {vv : ν → Lit} {w w1 : World} {b n : Nat} {g : κ → Option ν}
theorem MapF.made (P : Program) (k e : TypeId) (kk : κ → Lit) (vv : ν → Lit) (w : World) : MapF P k e kk vv (w.alloc (.map #[] 0)) w.heap.size 0 (fun _ => none) :=
  ⟨_, World.ownsMap_made _ _ _ _, fun x => ⟨by simp [has], fun zd => by simp [DataW.atKey]⟩⟩
theorem MapF.mono (h : MapF P k e kk vv w b n g) {n' : Nat} (hn : n ≤ n') : MapF P k e kk vv w b n' g := by
  obtain ⟨D, hD, hr⟩ := h
  exact ⟨D, hD.mono hn, hr⟩
theorem MapF.lt (h : MapF P k e kk vv w b n g) : b < w.heap.size := by
  obtain ⟨D, hD, _⟩ := h
  exact hD.lt
theorem MapF.blk (h : MapF P k e kk vv w b n g) : ∃ es cl, w.heap[b]? = some (.map es cl) := by
  obtain ⟨D, ⟨es, cl, hb, _⟩, _⟩ := h
  exact ⟨es, cl, hb⟩
theorem MapF.kept (h : MapF P k e kk vv w b n g) {row : Option Nat} (hg : w.grownBy w1 row) (hne : some b ≠ row) : MapF P k e kk vv w1 b n g := by
  obtain ⟨D, hD, hr⟩ := h
  exact ⟨D, hD.kept hg hne, hr⟩
theorem MapF.below (h : MapF P k e kk vv w b n g) (hb : Below w.heap.size w w1) : MapF P k e kk vv w1 b n g := by
  obtain ⟨D, ⟨es, cl, h0, hr'⟩, hr⟩ := h
  exact ⟨D, ⟨es, cl, (hb.block b (Array.getElem?_eq_some_iff.1 h0).1).trans h0, hr'⟩, hr⟩
theorem MapF.same (h : MapF P k e kk vv w b n g) (hb : w1.heap[b]? = w.heap[b]?) : MapF P k e kk vv w1 b n g := by
  obtain ⟨D, ⟨es, cl, h0, hr'⟩, hr⟩ := h
  exact ⟨D, ⟨es, cl, hb.trans h0, hr'⟩, hr⟩
theorem MapF.alloc (h : MapF P k e kk vv w b n g) (o : Obj) : MapF P k e kk vv (w.alloc o) b n g := h.kept (World.grownBy_alloc w o none) (by simp)
theorem MapF.drew (h : MapF P k e kk vv w b n g) : MapF P k e kk vv w.drew b n g := h
theorem MapF.drewN (h : MapF P k e kk vv w b n g) (m : Nat) : MapF P k e kk vv (w.drewN m) b n g := h
theorem MapF.ne_row (h : MapF P k e kk vv w b n g) {α : Type} {d : Kd α} {t base : Nat} {ok : Nat → Prop} {v : Value} {xs : List α} (ho : d.R t w base ok v xs) : some b ≠ v.ownBlock := by
  intro hb
  obtain ⟨es, cl, h0⟩ := h.blk
  obtain ⟨_, _, _, q, _, cells, hc⟩ := (Kd.R_bound ho).1 b hb.symm
  rw [h0] at hc
  cases hc
theorem MapF.grown (h : MapF P k e kk vv w b n g) {α : Type} {d : Kd α} {t base : Nat} {ok : Nat → Prop} {v : Value} {xs : List α} (ho : d.R t w base ok v xs) (hg : w.grownBy w1 v.ownBlock) : MapF P k e kk vv w1 b n g := h.kept hg (h.ne_row ho)
theorem R_mapped {α : Type} {d : Kd α} {t base : Nat} {ok : Nat → Prop} {v : Value} {xs : List α} (ho : d.R t w base ok v xs) (h : MapF P k e kk vv w b n g) (hg : w.grownBy w1 (some b)) : d.R t w1 base ok v xs := by
  obtain ⟨es, cl, h0⟩ := h.blk
  refine Kd.R_mono (Kd.R_step (Kd.R_bound ho) (fun i hi hlt => hg.block i hlt (fun he => ?_))) (fun _ hi => hi.1)
  injection he with he
  subst he
  obtain ⟨_, _, _, q, _, cells, hc⟩ := hi
  rw [h0] at hc
  cases hc
theorem below_mapped {w0 : World} {base : Nat} (h : Below base w0 w) (hg : w.grownBy w1 (some b)) (hb : base ≤ b) (hw : base ≤ w.heap.size) : Below base w0 w1 := h.grown hg hw (fun j hj => by cases hj; exact hb)
theorem plainElem_bool_inv {P : Program} {e : TypeId} (he : P.underlying e = some .bool) {v : Value} {z : DataW Unit × List MemPlace} (h : plainElem P e v = some z) : ∃ a, v = .bool a ∧ z = (.lit (.bool a), []) := by
  unfold plainElem at h
  rw [he] at h
  cases v <;> simp at h
  exact ⟨_, rfl, h.symm⟩
theorem MapF.look_bool {g : κ → Option Bool} (h : MapF P k e kk Lit.bool w b n g) (K : Keyed P k) {t : TypeId} (ht : P.underlying t = some (.map k e)) (he : P.underlying e = some .bool) (hz : (zeroValue e).run P w = .ok (.bool false) w)
    {key : Value} (x : κ) (hkey : keyOf P k key = some (kk x)) : (Instr.lookup t (.map (some b)) key false).run P w = .ok (.bool ((g x).getD false)) w := by
  obtain ⟨D, hD, hr⟩ := h
  obtain ⟨v, ps, hrun, hv⟩ := hD.lookup K ht hz (plainElem_bool he false) hkey
  obtain ⟨a, rfl, ha⟩ := plainElem_bool_inv he hv
  rw [hrun]
  have h1 := (hr x).2 (.lit (.bool false))
  simp only [Prod.mk.injEq] at ha
  rw [ha.1] at h1
  cases hg : g x with
  | none => rw [hg] at h1; simp at h1; simp [h1]
  | some c => rw [hg] at h1; simp at h1; simp [h1]
theorem MapF.look_int {q : IntKind} {g : κ → Option Int} (h : MapF P k e kk (Lit.int q) w b n g) (K : Keyed P k) {t : TypeId} (ht : P.underlying t = some (.map k e)) (he : P.underlying e = some (.int q)) (hz : (zeroValue e).run P w = .ok (.int q 0) w)
    {key : Value} (x : κ) (hkey : keyOf P k key = some (kk x)) : (Instr.lookup t (.map (some b)) key false).run P w = .ok (.int q ((g x).getD 0)) w := by
  obtain ⟨D, hD, hr⟩ := h
  obtain ⟨c, hrun, hat, _⟩ := hD.lookup_int K ht he hz hkey
  rw [hrun]
  have h1 := (hr x).2 (.lit (.int q 0))
  rw [hat] at h1
  cases hg : g x with
  | none => rw [hg] at h1; simp at h1; simp [h1]
  | some c => rw [hg] at h1; simp at h1; simp [h1]
theorem MapF.look_ok_int {q : IntKind} {g : κ → Option Int} (h : MapF P k e kk (Lit.int q) w b n g) (K : Keyed P k) {t : TypeId} (ht : P.underlying t = some (.map k e)) (he : P.underlying e = some (.int q)) (hz : (zeroValue e).run P w = .ok (.int q 0) w)
    {key : Value} (x : κ) (hkey : keyOf P k key = some (kk x)) : (Instr.lookup t (.map (some b)) key true).run P w = .ok (.tuple #[.int q ((g x).getD 0), .bool (g x).isSome]) w := by
  obtain ⟨D, hD, hr⟩ := h
  obtain ⟨v, ps, hrun, hv⟩ := hD.look_ok K ht hz (plainElem_int he (by cases q <;> decide)) hkey
  obtain ⟨c, rfl, hc, _⟩ := plainElem_int_inv he hv
  rw [hrun, (hr x).1]
  have h1 := (hr x).2 (.lit (.int q 0))
  simp only [Prod.mk.injEq] at hc
  rw [hc.1] at h1
  cases hg : g x with
  | none => rw [hg] at h1; simp at h1; simp [h1]
  | some c => rw [hg] at h1; simp at h1; simp [h1]
theorem map_store [DecidableEq κ] {ops : Array Oper} {rest : List Oper} {o : Oper} {a : Act} {Q : Exit → Act → World → Prop} (hg : o.guard = none) (m x v : Operand) (t : TypeId) (hop : o.op = Op.mapUpdate t m x v)
    (K : Keyed P k) (ht : P.underlying t = some (.map k e)) (hm : a.eval m = .map (some b)) (h : MapF P k e kk vv w b n g) (hn : n < maxLen) (hkk : ∀ x y, kk x = kk y → x = y) (key val : Value) (y : κ) (c : ν) (hx : a.eval x = key) (hv : a.eval v = val) (hkey : keyOf P k key = some (kk y))
    (hval : plainElem P e val = some ((.lit (vv c) : DataW Unit), []))
    (hK : ∀ w', MapF P k e kk vv w' b (n + 1) (upd g y c) → w.grownBy w' (some b) → wpList P ops Q rest (a.put o.dst undef) w') :
    wpList P ops Q (o :: rest) a w := by
  obtain ⟨D, hD, hr⟩ := h
  refine wpList_mapUpdate_own w hg m x v t hop k e K ht _ b n D hm hD hn key val (kk y) hx hv hkey (.lit (vv c)) [] hval (fun w' h1 h2 => hK w' ⟨_, h1, fun z => ?_⟩ h2)
  have hmap : IsMap D := hD.isMap
  have hkl : WideAt.IsKeyLit (kk y) := K.key hkey
  unfold upd
  by_cases hz : z = y
  · subst hz
    exact ⟨by rw [has_put_same hmap hkl]; simp, fun zd => by rw [atKey_put_same hmap hkl]; simp⟩
  · have hne : kk z ≠ kk y := fun he => hz (hkk _ _ he)
    rw [if_neg hz]
    exact ⟨by rw [has_put_other hne]; exact (hr z).1, fun zd => by rw [atKey_put_other hne]; exact (hr z).2 zd⟩
end
section
variable {κ ν : Type} {P : Program} {k e : TypeId} {kk : κ → Lit} {w : World} {b n : Nat}
theorem map_look_ok {q : IntKind} {g : κ → Option Int} {ops : Array Oper} {rest : List Oper} {o : Oper} {a : Act} {Q : Exit → Act → World → Prop} (hg : o.guard = none) (m x : Operand) (t : TypeId) (hop : o.op = Op.lookup t m x true)
    (K : Keyed P k) (ht : P.underlying t = some (.map k e)) (he : P.underlying e = some (.int q)) (hz : (zeroValue e).run P w = .ok (.int q 0) w) (hm : a.eval m = .map (some b)) (h : MapF P k e kk (Lit.int q) w b n g) (key : Value) (y : κ) (hx : a.eval x = key) (hkey : keyOf P k key = some (kk y))
    (hK : wpList P ops Q rest (a.put o.dst (.tuple #[.int q ((g y).getD 0), .bool (g y).isSome])) w) : wpList P ops Q (o :: rest) a w := by
  refine wpList_plain hg fun K' hK' => ?_
  have hrun := h.look_ok_int K ht he hz y hkey
  unfold Oper.wp
  simp [execOp, hop, hm, hx, hrun, Result.andThen]
  exact hK' _ _ hK
theorem map_look {q : IntKind} {g : κ → Option Int} {ops : Array Oper} {rest : List Oper} {o : Oper} {a : Act} {Q : Exit → Act → World → Prop} (hg : o.guard = none) (m x : Operand) (t : TypeId) (hop : o.op = Op.lookup t m x false)
    (K : Keyed P k) (ht : P.underlying t = some (.map k e)) (he : P.underlying e = some (.int q)) (hz : (zeroValue e).run P w = .ok (.int q 0) w) (hm : a.eval m = .map (some b)) (h : MapF P k e kk (Lit.int q) w b n g) (key : Value) (y : κ) (hx : a.eval x = key) (hkey : keyOf P k key = some (kk y))
    (hK : wpList P ops Q rest (a.put o.dst (.int q ((g y).getD 0))) w) : wpList P ops Q (o :: rest) a w := by
  refine wpList_plain hg fun K' hK' => ?_
  have hrun := h.look_int K ht he hz y hkey
  unfold Oper.wp
  simp [execOp, hop, hm, hx, hrun, Result.andThen]
  exact hK' _ _ hK
end
end Go.Proofs.YthaifibhflfpkaaX
namespace Go.Proofs.YthaifibhflfpkaaX
open Go.RowKit Go.Proofs.YthaifibhflfpkaaW.PrintWords Go.Proofs.YthaifibhflfpkaaW.PrintLast Go.Proofs.YthaifibhflfpkaaW.PrintMore
theorem cut_nums_from {P : Program} (ik : IntKind) (t e : TypeId) {i : TypeInfo} (ht : P.underlying t = some (.slice e)) (hi : P.info? e = some i) (hsz : i.size = 1) {w : World} {A : Option Addr} {c : Nat} {l : List Int} (hC : Kd.C (Kd.int ik) w A l.length l) (hc : l.length ≤ c) (j : Int) (h0 : 0 ≤ j) (hm : j ≤ l.length) :
    ∃ A1 c1, (∀ W : World, (Instr.slice t (.slice A l.length c) (some (.int .i64 j)) none none).run P W = .ok (.slice A1 (l.drop j.toNat).length c1) W) ∧ Kd.C (Kd.int ik) w A1 (l.drop j.toNat).length (l.drop j.toNat) ∧ (l.drop j.toNat).length ≤ c1 := by
  have h1 := cut_from (P := P) t e .i64 ht hi 1 hsz A l.length c j h0 hm
  have h2 := Kd.C_drop (m := j.toNat) (c := c) hC (by omega) hc
  refine ⟨if c = j.toNat then A else A.map (·.add (j.toNat * 1)), c - j.toNat, fun W => by rw [h1 W, List.length_drop], h2, ?_⟩
  rw [List.length_drop]
  omega
theorem cut_nums_mid {P : Program} (ik : IntKind) (t e : TypeId) {i : TypeInfo} (ht : P.underlying t = some (.slice e)) (hi : P.info? e = some i) (hsz : i.size = 1) {w : World} {A : Option Addr} {c : Nat} {l : List Int} (hC : Kd.C (Kd.int ik) w A l.length l) (hc : l.length ≤ c) (lo hi' : Int) (h0 : 0 ≤ lo) (h1 : lo ≤ hi') (h2 : hi' ≤ l.length) :
    ∃ A1 c1, (∀ W : World, (Instr.slice t (.slice A l.length c) (some (.int .i64 lo)) (some (.int .i64 hi')) none).run P W = .ok (.slice A1 ((l.take hi'.toNat).drop lo.toNat).length c1) W) ∧ Kd.C (Kd.int ik) w A1 ((l.take hi'.toNat).drop lo.toNat).length ((l.take hi'.toNat).drop lo.toNat) ∧ ((l.take hi'.toNat).drop lo.toNat).length ≤ c1 := by
  have h3 := cut_mid (P := P) t e .i64 .i64 ht hi 1 hsz A l.length c lo hi' h0 h1 h2 hc
  have h4 := Kd.C_mid (lo := lo.toNat) (hi := hi'.toNat) (c := c) hC (by omega) (by omega) hc
  have hl : ((l.take hi'.toNat).drop lo.toNat).length = hi'.toNat - lo.toNat := by rw [List.length_drop, List.length_take]; omega
  refine ⟨if c = lo.toNat then A else A.map (·.add (lo.toNat * 1)), c - lo.toNat, fun W => by rw [h3 W, hl], h4, ?_⟩
  rw [hl]
  omega
theorem bits32_range (op : BinOp) (x y : Int) : 0 ≤ Go.bits op .u32 x y ∧ Go.bits op .u32 x y ≤ 4294967295 := by
  unfold Go.bits
  simp only [IntKind.wrap, IntKind.signed, IntKind.bits, Bool.false_and]
  simp only [Bool.false_eq_true, if_false]
  have : (2 : Int) ^ (32 : Nat) = 4294967296 := by decide
  rw [this]
  omega
end Go.Proofs.YthaifibhflfpkaaX
end
section
namespace Go.Proofs.Ythaifibhflfpkaa.Q
open Go.RowKit Go.Proofs.YthaifibhflfpkaaW.PrintWords Go.Proofs.YthaifibhflfpkaaW.PrintLast Go.Proofs.YthaifibhflfpkaaW.PrintMore Go.Proofs.YthaifibhflfpkaaX
attribute [local go_sem] max2_int min2_int max_two min_two max_three min_three max_four min_four   -- for this text's walks alone
set_option linter.unusedVariables false
set_option linter.unusedSimpArgs false
section
attribute [local go_sem] Oper.semAt_some
def pfor_PutList.f (k : Nat) (l0 : List Int) (l1 : List Int) : Option (List Int) := if 1 ≤ l1.length ∧ l1.length ≤ 32 then (num_Put.f k l0 (l1.length : Int)).bind fun t => (pfor_PutBlock.f k t l1).bind fun b => some b.1 else none
def pfor_PutList.Kp (b1 b2 : Nat) (W W' : World) : Prop := W'.heap[b1]? = W.heap[b1]? ∧ W'.heap[b2]? = W.heap[b2]?
set_option maxHeartbeats 4000000 in
set_option maxRecDepth 100000 in
theorem pfor_PutList.chunk1 (n : Nat) (hn1 : 1 ≤ n) (b1 b2 : Nat) (A1 : Option Addr) (m c1 : Nat) (h1 : 1 ≤ m) (h2 : m ≤ 32) (hc : m ≤ c1) (w : World) (hb1 : w.heap[b1]? = some (.cells #[.slice A1 m c1] 39 (0, 0))) (hb2 : w.heap[b2]? = some (.cells #[.int .i64 32] 3 (0, 0))) :
  SeqStopsK Fence.wide n Try.prog 75 #[.pointer (some ⟨b1, 0, none⟩), .pointer (some ⟨b2, 0, none⟩)] (fun _ : Unit => #[Value.slice A1 m m]) (pfor_PutList.Kp b1 b2) (fun ys => ys = [()]) (fun _ => True) 1 w := fun l J Jx W hW hJ hJx hY h0 => by
 have hu : Try.prog.underlying 39 = some (.slice 40) := by kernel_rfl
 have e1 : W.heap[b1]? = some (.cells #[.slice A1 m c1] 39 (0, 0)) := (hW.block b1 (blk_lt hb1)).trans hb1
 have e2 : W.heap[b2]? = some (.cells #[.int .i64 32] 3 (0, 0)) := (hW.block b2 (blk_lt hb2)).trans hb2
 have c1' : ∀ W' : World, W'.heap[b1]? = W.heap[b1]? → W'.cell? ⟨b1, 0, none⟩ = some (.slice A1 m c1) := fun W' h => (blk_cell (h.trans e1) 0).trans rfl
 have c2' : ∀ W' : World, W'.heap[b2]? = W.heap[b2]? → W'.cell? ⟨b2, 0, none⟩ = some (.int .i64 32) := fun W' h => (blk_cell (h.trans e2) 0).trans rfl
 obtain ⟨i0, hi0, _, hsz0, _⟩ := info_parts (show (Try.prog.info? 40).map (fun i => (i.zero, i.size, i.bytes)) = some (some (.int .u64 0), 1, 8) by kernel_rfl)
 have hs0 : ∀ W : World, (Instr.slice 39 (.slice A1 m c1) (some (.int .i64 0)) none none).run Try.prog W = .ok (.slice A1 m c1) W := fun W => by
  rw [cut_from (P := Try.prog) 39 40 .i64 hu hi0 1 hsz0 A1 m c1 0 (by omega) (by omega) W]
  have hA : (A1.map fun x => x.add 0) = A1 := by cases A1 <;> simp [Addr.add]
  simp [hA]
 have hs3 : ∀ W : World, (Instr.slice 39 (.slice A1 m c1) (some (.int .i64 0)) (some (.int .i64 (m : Int))) (some (.int .i64 (m : Int)))).run Try.prog W = .ok (.slice A1 m m) W := fun W => by
  have hA : (A1.map fun x => x.add 0) = A1 := by cases A1 <;> simp [Addr.add]
  have hel : Try.prog.elem 39 = 40 := by simp [Program.elem, hu]
  have hu' : Try.prog.underlying 39 = some (.slice (Try.prog.elem 39)) := by rw [hel]; exact hu
  rw [run_slice_lhm W 39 A1 m c1 hu' .i64 .i64 .i64 0 m m (by omega) (by omega) (by omega) (by omega), hel]
  simp [sizeOf, typeInfo, hi0, sliced, Result.andThen, hA]
 refine callsIn_of_wp Try.func75 rfl trivial ?_ rfl
 simp only [Try.ntmps75, List.size_toArray, List.length_cons, List.length_nil, Nat.reduceAdd, Nat.reduceSub, Array.replicate_succ, Array.replicate_zero, List.push_toArray, List.append_toArray, List.nil_append, List.cons_append]
 have hx1 := c1' W rfl
 have hx2 := c2' W rfl
 have H1 := aM c1'
 have H2 := aM c2'
 clear c1' c2'
 have d1 : decide (0 < (m : Int)) = true := decide_eq_true (by omega)
 have d2 : decide (0 < m) = true := decide_eq_true (by omega)
 gi_wp2
 gi_loopw [4] (fun i wr => (i = .int .i64 0 ∧ wr = W) ∨ (i = .int .i64 32 ∧ J [()] wr ∧ pfor_PutList.Kp b1 b2 W wr)) (fun i _ => 64 - (intOf i).toNat)
 case atStart => exact .inl ⟨rfl, rfl⟩
 case round =>
  rcases hrel with ⟨rfl, rfl⟩ | ⟨rfl, hJ1, hK1⟩
  ·
   have hmin : (if (m : Int) < 32 then (m : Int) else 32) = (m : Int) := by split <;> omega
   have z0 : wrap64 (0 + (m : Int)) = (m : Int) := by unfold wrap64; omega
   gi_wp2
   gi_region
   have hJd : J [] wr.drew := hJ [] wr wr.drew none h0 ⟨rfl, rfl, rfl, Nat.le_refl _, fun _ _ _ => rfl⟩ (fun r e => by cases e)
   obtain ⟨fn, tmps, assign, body, hy, hR⟩ := hY [] () wr.drew hJd (by simp)
   have hx1d := H1.out wr.drew rfl
   gi_wp2
   refine hR.mono ?_
   rintro e W3 (⟨rfl, hJ3, hk3⟩ | ⟨rfl, hJx3⟩)
   ·
    have hx3 := H2.out W3 hk3.2
    gi_wp2
    go_roundw
    case rel => exact .inr ⟨rfl, hJ3, hk3⟩
    case measure => simp [intOf]
   ·
    gi_wp2
    refine bodyPost_ret (results_none rfl _ _ _) rfl ?_
    exact ⟨⟨_, rfl⟩, .inr ⟨_, trivial, hJx3⟩⟩
  ·
   have hx1d := H1.out wr hK1.1
   have d3 : decide (32 < (m : Int)) = false := decide_eq_false (by omega)
   have d4 : decide (32 < m) = false := decide_eq_false (by omega)
   gi_wp2
   go_end0
   exact ⟨⟨_, rfl⟩, .inl ⟨_, rfl, hJ1⟩⟩
set_option maxHeartbeats 4000000 in
set_option maxRecDepth 100000 in
theorem pfor_PutList.chunk (A1 : Option Addr) (m c1 : Nat) (w : World) : Calls Try.prog 48 #[.slice A1 m c1, .int .i64 32] w fun e w' => e = .returned (.func (.func 75) #[] #[.pointer (some ⟨w.heap.size, 0, none⟩), .pointer (some ⟨w.heap.size + 1, 0, none⟩)]) ∧ w' = (w.alloc (.cells #[.slice A1 m c1] 39)).alloc (.cells #[.int .i64 32] 3) := by
 go_enter Try.func48, Try.ntmps48
 go_wp2
 go_ret
 exact ⟨by first | rfl | simp, rfl⟩
theorem pfor_PutList.noncells {α : Type} {d : Kd α} {t base : Nat} {ok : Nat → Prop} {v : Value} {xs : List α} {W W' : World} {row : Option Nat} (ho : d.R t W base ok v xs) (hg : W.grownBy W' row) (hr : ∀ r, row = some r → ∃ o : Obj, W.heap[r]? = some o ∧ o.isCells = false) : d.R t W' base ok v xs := by
 refine Kd.R_mono (Kd.R_step (Kd.R_bound ho) (fun i hi hlt => hg.block i hlt (fun he => ?_))) (fun _ hi => hi.1)
 obtain ⟨_, _, _, q, _, cells, hc⟩ := hi
 obtain ⟨o, h0, h1⟩ := hr i he.symm
 rw [hc] at h0
 cases h0
 cases h1
def pfor_PutList.I (w : World) (B : Nat) (b r : List Int) (pre : List Unit) (W : World) : Prop :=
 (∃ v, Boxed W B 22 v ∧ Kd.R (Kd.int .u8) 5 W w.heap.size (fun k_ => k_ ≠ B) v (if pre = [] then b else r) ∧ B + 3 ≤ W.heap.size) ∧ Below w.heap.size w W
theorem pfor_PutList.own (w : World) (B : Nat) (b r : List Int) (B0 : Nat) (hB0 : w.heap.size ≤ B0) : OwnFrom B0 (pfor_PutList.I w B b r) := by
 intro s W W' row hs hg hr
 obtain ⟨⟨v, hb, ho, hsz⟩, hbl⟩ := hs
 refine ⟨⟨v, hb.kept hg (fun e => ?_), pfor_PutList.noncells ho hg (fun r e => (hr r e).2), Nat.le_trans hsz hg.size⟩, ownFrom_below (β := List Unit) (Nat.le_refl _) hB0 s W W' row hbl hg hr⟩
 obtain ⟨_, o, h0, h1⟩ := hr B e.symm
 rw [show W.heap[B]? = _ from hb] at h0
 cases h0
 cases h1
set_option maxHeartbeats 8000000 in
set_option maxRecDepth 100000 in
theorem pfor_PutList.calls (k : Nat) (A0 : Option Addr) (c0 : Nat) (l0 : List Int) (A1 : Option Addr) (c1 : Nat) (l1 : List Int) (r : List Int) (w : World) (hr0 : Kd.C (Kd.int .u8) w A0 l0.length l0) (hc0 : l0.length ≤ c0) (hr1 : Kd.C (Kd.int .u64) w A1 l1.length l1) (hc1 : l1.length ≤ c1) (h : pfor_PutList.f k l0 l1 = some r) :
  Calls Try.prog 23 #[.slice A0 l0.length c0, .slice A1 l1.length c1] w fun e w' => ∃ v0_ : Value, e = .returned (v0_) ∧ Kd.R (Kd.int .u8) 5 w' w.heap.size (fun _ => True) v0_ r ∧ Below w.heap.size w w' := by
 unfold pfor_PutList.f at h
 split at h
 case isFalse => exact absurd h (by simp)
 case isTrue hl =>
 replace h := Option.bind_eq_some_iff.mp h
 obtain ⟨b, hb, h2⟩ := h
 replace h2 := Option.bind_eq_some_iff.mp h2
 obtain ⟨⟨r1, r2⟩, hp, h3⟩ := h2
 obtain rfl := Option.some.inj h3
 clear h3
 have HL := aM hl
 have HN := aM hb
 have HP := aM hp
 have HR0 := aM hr0
 have HC0 := aM hc0
 have HR1 := aM hr1
 have HC1 := aM hc1
 clear hr0 hc0 hr1 hc1 hl hb hp
 have HB := aM (Below.refl w.heap.size w)
 refine (callsIn_wide (n := 3)).1 ?_
 refine callsIn_of_wp_marks Try.func23 rfl trivial ?_ rfl
 simp only [Try.ntmps23, List.size_toArray, List.length_cons, List.length_nil, Nat.reduceAdd, Nat.reduceSub, Array.replicate_succ, Array.replicate_zero, List.push_toArray, List.append_toArray, List.nil_append, List.cons_append]
 have hu : IntKind.u64.wrap (l1.length : Int) = (l1.length : Int) := by have := HL.out; simp [IntKind.wrap, IntKind.signed, IntKind.bits]; omega
 gi_wp2_with (first | (refine ⟨trivial, ?_⟩; gi_at_call 47; refine (callsIn_wide.2 (num_Put.calls k A0 c0 l0 (l1.length : Int) b w HR0.out HC0.out HN.out)).mono ?_; rintro e w1 ⟨v1, rfl, ho1, hb1⟩; have HO1 := aM ho1; have HB1 := aM hb1; clear ho1 hb1 HB; obtain ⟨A11, c11, rfl⟩ := Kd.R_slice HO1.out; have hbx := (Boxed.new w1 22 (.slice none 0 0)).cell; have hbf := (Boxed.new w1 22 (.slice none 0 0)).frozen) | (refine ⟨trivial, ?_⟩; gi_at_call 48; refine (callsIn_wide.2 (pfor_PutList.chunk A1 l1.length c1 _)).mono ?_; rintro e w2 ⟨rfl, rfl⟩))
 clear hbx hbf hu
 obtain ⟨W0, hW0⟩ : ∃ W0, ((w1.alloc (.cells #[.slice A11 b.length c11] 22)).alloc (.cells #[.slice A1 l1.length c1] 39)).alloc (.cells #[.int .i64 32] 3) = W0 := ⟨_, rfl⟩
 have hsz : W0.heap.size = w1.heap.size + 3 := by rw [← hW0]; simp
 have hbox : Boxed W0 w1.heap.size 22 (.slice A11 b.length c11) := by rw [← hW0]; exact ((Boxed.new w1 22 _).alloc _).alloc _
 have he1 : W0.heap[w1.heap.size + 1]? = some (.cells #[.slice A1 l1.length c1] 39 (0, 0)) := by
  rw [← hW0]
  have h := (Boxed.new (w1.alloc (.cells #[.slice A11 b.length c11] 22)) 39 (.slice A1 l1.length c1)).alloc (.cells #[.int .i64 32] 3)
  rw [World.size_alloc] at h
  exact h
 have he2 : W0.heap[w1.heap.size + 1 + 1]? = some (.cells #[.int .i64 32] 3 (0, 0)) := by
  rw [← hW0]
  have h := Boxed.new ((w1.alloc (.cells #[.slice A11 b.length c11] 22)).alloc (.cells #[.slice A1 l1.length c1] 39)) 3 (.int .i64 32)
  rw [World.size_alloc, World.size_alloc] at h
  exact h
 have hR : Kd.R (Kd.int .u8) 5 W0 w.heap.size (fun k_ => k_ ≠ w1.heap.size) (.slice A11 b.length c11) b := by
  rw [← hW0]
  exact Kd.R_alloc (Kd.R_alloc (Kd.R_alloc (Kd.R_mono (Kd.R_bound HO1.out) (fun k_ hk => by have := hk.2.2.1; omega)) _) _) _
 have hBel : Below w.heap.size w W0 := by
  rw [← hW0]
  exact below_alloc (below_alloc (below_alloc HB1.out _) _) _
 have hwle : w.heap.size ≤ w1.heap.size := below_size HB1.out
 rw [hW0]
 refine wpIn_rangeFunc_ownG (F := Fence.wide) rfl (by omega) (gf := 75) (lb := #[.pointer (some ⟨w1.heap.size + 1, 0, none⟩), .pointer (some ⟨w1.heap.size + 1 + 1, 0, none⟩)]) rfl trivial (enters_of Try.func75 (by kernel_rfl) rfl)
  (pfor_PutList.chunk1 (3 - 1) (by omega) _ _ A1 l1.length c1 HL.out.1 HL.out.2 HC1.out W0 he1 he2) (fun h h' => ⟨h'.1.trans h.1, h'.2.trans h.2⟩) (fun W l o o' hl _ _ _ => ⟨World.putObj_heap_other (by omega), World.putObj_heap_other (by omega)⟩) (Below.refl _ _) (fun _ => rfl)
  (pfor_PutList.I w w1.heap.size b r1) (fun _ _ _ => False) (pfor_PutList.own w w1.heap.size b r1 _ (by omega)) (fun _ _ _ _ _ hs _ _ => hs) ⟨⟨_, hbox, by rw [if_pos rfl]; exact hR, by omega⟩, hBel⟩
  (fun _ => { tmps := #[.slice A0 l0.length c0, .slice A1 l1.length c1, undef, undef, .slice none 0 0, .pointer (some ⟨w1.heap.size, 0, none⟩), .slice A1 l1.length l1.length, .slice A0 l0.length c0, .slice A1 l1.length c1, .int .i64 l1.length, .int .u64 l1.length, .slice A11 b.length c11, .slice A1 l1.length c1, .func (.func 75) #[] #[.pointer (some ⟨w1.heap.size + 1, 0, none⟩), .pointer (some ⟨w1.heap.size + 1 + 1, 0, none⟩)], .slice A1 l1.length l1.length, undef, undef, undef, undef, undef, undef, undef], defers := [] }) ?assign ?body ?done ?stop
 case assign =>
  intro l x W K hK
  gi_wp2
  exact hK
 case body =>
  rintro l pre x W ⟨⟨v, hb, ho, hs⟩, hbl⟩ hlen
  have hpre : pre = [] := List.eq_nil_of_length_eq_zero (by omega)
  rw [hpre, if_pos rfl] at ho
  obtain ⟨A2, c2, rfl⟩ := Kd.R_slice ho
  have hcell := hb.cell
  have HOW := aM ho
  have HBW := aM hb
  have HBL := aM hbl
  have HS := aM hs
  clear ho hb hbl hs hW0 hsz hbox he1 he2 hR hBel
  gi_wp2_with (first | (refine ⟨trivial, ?_⟩; gi_at_call 49; refine (CallsIn.inRound l (callsIn_wide.2 (pfor_PutBlock.calls k A2 c2 b A1 l1.length l1 r1 r2 W (Kd.R_reads' HOW.out).2.2 (Kd.R_reads' HOW.out).2.1 (Kd.C_below HR1.out HBL.out) (Nat.le_refl _) HP.out))).mono ?_; rintro e W2 ⟨v2, rfl, ho2, hb2⟩; have HO2 := aM ho2; have HB2 := aM hb2; clear ho2 hb2; obtain ⟨A3, c3, rfl⟩ := Kd.R_slice HO2.out; have hbx2 : Boxed W2 w1.heap.size 22 _ := blk_below (g := w1.heap.size) HBW.out HB2.out; have hcell2 := hbx2.cell; have hfr2 := hbx2.frozen; have HX2 := aM hbx2; clear hbx2))
  have hWs : w.heap.size ≤ W.heap.size := below_size HBL.out
  have hBs := HS.out
  refine ⟨(KeepsOthers.trans (B := W2) ⟨HB2.out.size, fun k o hk _ => (HB2.out.block k (blk_lt hk)).trans hk⟩ (KeepsOthers.setCell _ _ _)).from _, ⟨?_, ?_⟩, ⟨⟨_, Boxed.set _ HX2.out, ?_, ?_⟩, ?_⟩⟩
  · exact (Below.heap_setCell W2 ⟨w1.heap.size, 0, none⟩ _ _ (by show _ ≠ w1.heap.size; omega)).trans (HB2.out.block _ (by omega))
  · exact (Below.heap_setCell W2 ⟨w1.heap.size, 0, none⟩ _ _ (by show _ ≠ w1.heap.size; omega)).trans (HB2.out.block _ (by omega))
  ·
   rw [if_neg (by simp)]
   exact Kd.R_far (p := ⟨w1.heap.size, 0, none⟩) (Kd.R_lower (Kd.R_mono (Kd.R_bound HO2.out) (fun k_ hk => by have := hk.2.1; show k_ ≠ w1.heap.size; omega)) hWs) (fun k_ hk => hk) _
  ·
   have := (KeepsOthers.setCell W2 ⟨w1.heap.size, 0, none⟩ (.slice A3 r1.length c3)).size
   have := HB2.out.size
   omega
  · exact below_set (below_step HBL.out HB2.out) hwle
 case done =>
  rintro D ys W hD rfl ⟨⟨v, hb, ho, hs⟩, hbl⟩ hK
  rw [if_neg (by simp)] at ho
  obtain ⟨A2, c2, rfl⟩ := Kd.R_slice ho
  have hcell := hb.cell
  have HOW := aM ho
  have HBL := aM hbl
  have HKD := aM hK
  clear ho hbl hs hb hW0 hbox he1 he2 hR hBel
  gi_wp2
  refine ⟨by simp, .inl ⟨_, _, rfl, run_takeDeferred HKD.out, ?_⟩⟩
  refine ⟨_, results_tmp rfl _ _ _, _, rfl, Kd.R_mono (pfor_PutList.noncells HOW.out (grownBy_putObj' _ D _) (fun r e => by cases e; exact ⟨_, HKD.out, rfl⟩)) (fun _ _ => trivial), HBL.out.trans (belowK_b (w := w) (Nat.le_refl _) W D _ _ (by omega) HKD.out rfl rfl)⟩
 case stop =>
  rintro D c pre W _ _ h _
  exact h.elim
end
end Go.Proofs.Ythaifibhflfpkaa.Q
end
section
namespace Go.Proofs.Ythaifibhflfpkaa.Q
open Go.RowKit Go.Proofs.YthaifibhflfpkaaW.PrintWords Go.Proofs.YthaifibhflfpkaaW.PrintLast Go.Proofs.YthaifibhflfpkaaW.PrintMore Go.Proofs.YthaifibhflfpkaaX
namespace Law
theorem clear_high (d w : Nat) (hd : d < 2 ^ 64) : Go.bits .andNot .u64 (d : Int) ((d / 2 ^ w * 2 ^ w : Nat) : Int) = ((d % 2 ^ w : Nat) : Int) := by
  have hb : d / 2 ^ w * 2 ^ w < 2 ^ 64 := Nat.lt_of_le_of_lt (Nat.div_mul_le_self d (2 ^ w)) hd
  rw [Go.u64_andNot_nat _ _ hd hb]
  congr 1
  apply Nat.eq_of_testBit_eq
  intro i
  rw [show 18446744073709551615 - d / 2 ^ w * 2 ^ w = 2 ^ 64 - (d / 2 ^ w * 2 ^ w + 1) by omega, Nat.testBit_and, Nat.testBit_two_pow_sub_succ hb, Nat.testBit_mul_two_pow, Nat.testBit_div_two_pow, Nat.testBit_mod_two_pow]
  by_cases h : i < w
  · by_cases h64 : i < 64
    · simp [h, h64, Nat.not_le.2 h]
    · have : d.testBit i = false := Nat.testBit_lt_two_pow (Nat.lt_of_lt_of_le hd (Nat.pow_le_pow_right (by decide) (by omega)))
      simp [this]
  · have e : i - w + w = i := by omega
    rw [e]
    simp [h, Nat.not_lt.1 h]
    intro h1 _
    exact h1
def minT : List Nat → Nat → Nat
  | [], m => m
  | x :: r, m => minT r (min m x)
theorem minT_le : ∀ (a : List Nat) (m : Nat), minT a m ≤ m ∧ ∀ x ∈ a, minT a m ≤ x
  | [], m => ⟨Nat.le_refl _, fun _ h => by simp at h⟩
  | x :: r, m => by
    have h := minT_le r (min m x)
    refine ⟨by rw [minT]; omega, fun y hy => ?_⟩
    rw [minT]
    rcases List.mem_cons.1 hy with rfl | hy
    · omega
    · exact h.2 y hy
def baseT (a : List Nat) : Nat := minT a (a.getD 0 0)
def lessT (a : List Nat) : List Nat := a.map fun x => x - baseT a
def tailT (w : Nat) : Nat → List Nat → List Int
  | _, [] => []
  | i, d :: r => (if 0 < d / 2 ^ w then (i : Int) % 256 :: numB (d / 2 ^ w) else []) ++ tailT w (i + 1) r
def cntT (w : Nat) (ds : List Nat) : Nat := (ds.filter fun d => decide (0 < d / 2 ^ w)).length
def lowT (w : Nat) (ds : List Nat) : List Nat := ds.map fun d => d % 2 ^ w
def sizeT (w : Nat) (ds : List Nat) : Nat := (w * ds.length + 7) / 8 + (tailT w 0 ds).length
def byT (a : List Nat) (w : Nat) : List Int := (a.length : Int) :: numB (baseT a) ++ [(w : Int), (cntT w (lessT a) : Int)] ++ (le (sumw w (lowT w (lessT a))) ((w * a.length + 7) / 8) ++ tailT w 0 (lessT a))
def bestT (ds : List Nat) : Nat → Nat → Nat → Nat
  | 0, _, b => b
  | f + 1, w, b => if sizeT w ds < sizeT b ds then bestT ds f (w + 1) w else bestT ds f (w + 1) b
def blockT (a : List Nat) : List Int := byT a (bestT (lessT a) 64 1 0)
theorem cntT_pos {w d : Nat} (r : List Nat) (h : 0 < d / 2 ^ w) : cntT w (d :: r) = cntT w r + 1 := by
  unfold cntT
  rw [List.filter_cons_of_pos (p := fun d => decide (0 < d / 2 ^ w)) (decide_eq_true h), List.length_cons]
theorem cntT_neg {w d : Nat} (r : List Nat) (h : ¬ 0 < d / 2 ^ w) : cntT w (d :: r) = cntT w r := by
  unfold cntT
  rw [List.filter_cons_of_neg (p := fun d => decide (0 < d / 2 ^ w)) (by rw [decide_eq_false h]; decide)]
theorem lessT_length (a : List Nat) : (lessT a).length = a.length := by simp [lessT]
theorem lessT_lt (a : List Nat) (h : ∀ x ∈ a, x < 2 ^ 64) : ∀ x ∈ lessT a, x < 2 ^ 64 := by
  intro x hx
  obtain ⟨y, hy, rfl⟩ := List.mem_map.1 hx
  have := h y hy
  omega
theorem lowT_lt (w : Nat) (ds : List Nat) : ∀ x ∈ lowT w ds, x < 2 ^ w := by
  intro x hx
  obtain ⟨y, hy, rfl⟩ := List.mem_map.1 hx
  exact Nat.mod_lt _ (Nat.two_pow_pos w)
theorem numB_le (d : Nat) (h : d < 2 ^ 64) : (numB d).length ≤ 9 := (numB_length d).2 h
theorem tailT_le (w : Nat) : ∀ (ds : List Nat) (i : Nat), (∀ x ∈ ds, x < 2 ^ 64) → (tailT w i ds).length ≤ 10 * ds.length
  | [], _, _ => by simp [tailT]
  | d :: r, i, h => by
    have ih := tailT_le w r (i + 1) (fun x hx => h x (by simp [hx]))
    have h1 := numB_le (d / 2 ^ w) (Nat.lt_of_le_of_lt (Nat.div_le_self _ _) (h d (by simp)))
    rw [tailT, List.length_append, List.length_cons]
    split
    · rw [List.length_cons]
      omega
    · simp
      omega
theorem byT_length (a : List Nat) (w : Nat) : (byT a w).length = 3 + (numB (baseT a)).length + sizeT w (lessT a) := by
  unfold byT sizeT
  simp only [List.length_cons, List.length_append, List.length_nil, le_length, lessT_length]
  omega
theorem usub (x b : Nat) (h : b ≤ x) (hx : x < 2 ^ 64) : IntKind.u64.wrap ((x : Int) - (b : Int)) = ((x - b : Nat) : Int) := by
  rw [show (x : Int) - (b : Int) = ((x - b : Nat) : Int) by omega]
  exact wrapu _ (by omega)
theorem ints_snoc (a : List Nat) (x : Nat) : ints (a ++ [x]) = ints a ++ [(x : Int)] := by simp [ints]
theorem drop_cons {α : Type} {a r : List α} {x : α} {i : Nat} (h : a.drop i = x :: r) : i < a.length ∧ a[i]? = some x ∧ a.drop (i + 1) = r := by
  have hlt : i < a.length := by
    rcases Nat.lt_or_ge i a.length with h1 | h1
    · exact h1
    · rw [List.drop_eq_nil_of_le h1] at h
      cases h
  rw [List.drop_eq_getElem_cons hlt] at h
  injection h with hx hr
  exact ⟨hlt, by rw [List.getElem?_eq_getElem hlt, hx], hr⟩
theorem less_at {a : List Nat} {d i : Nat} (h : (lessT a)[i]? = some d) : ∃ x, a[i]? = some x ∧ d = x - baseT a := by
  unfold lessT at h
  rw [List.getElem?_map, Option.map_eq_some_iff] at h
  obtain ⟨x, h1, h2⟩ := h
  exact ⟨x, h1, h2.symm⟩
theorem base_le {a : List Nat} {x i : Nat} (h : a[i]? = some x) : baseT a ≤ x := (minT_le a _).2 x (List.mem_of_getElem? h)
theorem rd_some {a : List Nat} {x i : Nat} (h : a[i]? = some x) : rd (ints a) (i : Int) = (x : Int) := by
  rw [rd_ints, List.getD_eq_getElem?_getD, h]
  rfl
theorem blockT_le (a : List Nat) (h0 : 0 < a.length) (hl : a.length ≤ 32) (hb : ∀ x ∈ a, x < 2 ^ 64) : (blockT a).length ≤ 2000 := by
  have hbest : ∀ f w b, w + f ≤ 65 → b ≤ 64 → bestT (lessT a) f w b ≤ 64 := by
    intro f
    induction f with
    | zero => intro w b _ h; exact h
    | succ f ih =>
      intro w b h1 h2
      rw [bestT]
      split
      · exact ih _ _ (by omega) (by omega)
      · exact ih _ _ (by omega) h2
  have hw := hbest 64 1 0 (by omega) (by omega)
  have hbase : baseT a < 2 ^ 64 := by
    have h1 := (minT_le a (a.getD 0 0)).2 a[0] (List.getElem_mem h0)
    have h2 := hb a[0] (List.getElem_mem h0)
    unfold baseT
    omega
  have hn := numB_le (baseT a) hbase
  unfold blockT
  rw [byT_length]
  unfold sizeT
  have ht := tailT_le (bestT (lessT a) 64 1 0) (lessT a) 0 (lessT_lt a hb)
  have hm : bestT (lessT a) 64 1 0 * (lessT a).length ≤ 64 * 32 := Nat.mul_le_mul hw (by rw [lessT_length]; exact hl)
  rw [lessT_length] at *
  omega
end Law
end Go.Proofs.Ythaifibhflfpkaa.Q
end
