/- A part of the claim's own texts: words, walks and plain laws. -/
import Derived.Test.YthaifibhflfpkaaTb2
import Derived.Test.YthaifibhflfpkaaTb8
import Derived.Test.YthaifibhflfpkaaTb7
import Derived.Test.YthaifibhflfpkaaTb4
import Derived.Test.YthaifibhflfpkaaTb6
import Derived.Test.YthaifibhflfpkaaTb5
import Derived.Lib.SmallJoins
section
namespace Go.Proofs.Ythaifibhflfpkaa.Q
open Go.RowKit Go.Proofs.YthaifibhflfpkaaW.PrintWords Go.Proofs.YthaifibhflfpkaaW.PrintLast Go.Proofs.YthaifibhflfpkaaW.PrintMore Go.Proofs.YthaifibhflfpkaaX
attribute [local go_sem] max2_int min2_int max_two min_two max_three min_three max_four min_four   -- for this text's walks alone
set_option linter.unusedVariables false
set_option linter.unusedSimpArgs false
mutual
def texts_Put.j0 : Nat → List Int → List (List Int) → Bool → Option (List Int × Int)
 | 0, _, _, _ => none
 | k + 1, x0, x1, x25 => if x25 = true then (some (([] : List Int), 1)) else (if 0 ≤ (x1.length : Int) then (if ((x1.length : Int) : Int).toNat ≤ 35184372088832 then (texts_Put.l0 k x0 x1 (List.replicate ((x1.length : Int) : Int).toNat 0) x1 (x1.length : Int) 0) else (none)) else (none))
def texts_Put.l0 : Nat → List Int → List (List Int) → List Int → List (List Int) → Int → Int → Option (List Int × Int)
 | 0, _, _, _, _, _, _ => none
 | k + 1, x0, x1, x6, x29, x30, x31 => if x31 < x30 then (if 0 ≤ x31 then (if x31 < (x29.length : Int) then (if ((rd_L1 x29 x31).length : Int) > 65536 then (some (([] : List Int), 5)) else (if x31 < (x6.length : Int) then (texts_Put.l0 k x0 x1 (x6.set (x31 : Int).toNat (IntKind.u64.wrap (((rd_L1 x29 x31).length : Int)))) x29 x30 (wrap64 (x31 + 1))) else (none))) else (none)) else (none)) else ((bytes_Join.f x1 ([] : List Int)).bind fun t236 => ((lz_Pack.f t236).bind fun t239 => ((sym_Train.f x1).bind fun t242 => ((sym_PutTable.f k ([] : List Int) t242).bind fun bt245 => ((sym_Encode.f t242 t236).bind fun bt249 => (if (wrap64 ((bt245.1.length : Int) + (bt249.1.length : Int))) < (t239.length : Int) then (if bt245.1.length + bt249.1.length < 140737488355328 then ((bytes_Clone.f x0).bind fun t256 => (if t256.length < 140737488355328 then ((pfor_PutList.f k (t256 ++ [2]) x6).bind fun t262 => ((num_PutRow.f k t262 (bt245.1 ++ bt249.1)).bind fun t265 => (some (t265, 0)))) else (none))) else (none)) else ((bytes_Clone.f x0).bind fun t268 => (if t268.length < 140737488355328 then ((pfor_PutList.f k (t268 ++ [1]) x6).bind fun t274 => ((num_PutRow.f k t274 t239).bind fun t277 => (some (t277, 0)))) else (none)))))))))
end
def texts_Put.f (k : Nat) (l0 : List Int) (l1 : List (List Int)) : Option (List Int × Int) := if (l1.length : Int) < 1 then (texts_Put.j0 k l0 l1 true) else (texts_Put.j0 k l0 l1 (decide ((l1.length : Int) > 16)))
set_option maxHeartbeats 8000000 in
set_option maxRecDepth 100000 in
theorem texts_Put.calls (k : Nat) (A0 : Option Addr) (c0 : Nat) (l0 : List Int) (A1 : Option Addr) (c1 : Nat) (l1 : List (List Int)) (r1 : List Int) (r2 : Int) (w : World) (hr0 : Kd.C (Kd.int .u8) w A0 l0.length l0) (hc0 : l0.length ≤ c0) (hr1 : Kd.C (Kd.slice 5 (Kd.int .u8)) w A1 l1.length l1) (hc1 : l1.length ≤ c1) (h : texts_Put.f k l0 l1 = some (r1, r2)) :
  Calls Try.prog 10 #[.slice A0 l0.length c0, .slice A1 l1.length c1] w fun e w' => ∃ v0_ : Value, e = .returned (.tuple #[v0_, .int .i64 r2]) ∧ Kd.R (Kd.int .u8) 5 w' w.heap.size (fun _ => True) v0_ r1 ∧ Below w.heap.size w w' := by
 have HR0 := aM hr0
 have HC0 := aM hc0
 clear hr0 hc0
 have HR1 := aM hr1
 have HC1 := aM hc1
 clear hr1 hc1
 have HB := aM (Below.refl w.heap.size w)
 have H : (if (l1.length : Int) < 1 then (texts_Put.j0 k l0 l1 true) else (texts_Put.j0 k l0 l1 (decide ((l1.length : Int) > 16)))) = some (r1, r2) := h
 clear h
 have HC3 := aM H
 clear H
 go_enter Try.func10, Try.ntmps10
 go_upto_region 1 with (fail)
 go_cut [25] (fun v25 wc => ∃ (kq : Nat) (x25_2 : Bool), v25 = .bool x25_2 ∧ Aside0 (texts_Put.j0 kq l0 l1 x25_2 = some (r1, r2)) ∧ Aside0 (kq ≤ k) ∧ Aside0 (Below w.heap.size w wc))
 case first =>
  have H := HC3.out
  clear HC3
  by_cases c4 : (l1.length : Int) < 1
  ·
   rw [if_pos c4] at H
   have c4b0 : decide ((l1.length : Int) < 1) = true := decide_eq_true c4
   have c4b1 : decide (l1.length < 1) = true := decide_eq_true (by omega)
   clear c4
   (first | rw [c4b0] | (simp only [i64_w, i32_w]; rw [c4b0]) | skip)
   have H' := aM H
   clear H
   go_wp2
   go_meet
   case rel => exact ⟨_, (true), (by first | rfl | (simp; done) | (simp [*]; done)), H', ⟨by first | omega | exact Nat.le_refl _⟩, ⟨xB HB.out⟩⟩
  ·
   rw [if_neg c4] at H
   have c4b0 : decide ((l1.length : Int) < 1) = false := decide_eq_false c4
   have c4b1 : decide (l1.length < 1) = false := decide_eq_false (by omega)
   clear c4
   (first | rw [c4b0] | (simp only [i64_w, i32_w]; rw [c4b0]) | skip)
   have H' := aM H
   clear H
   go_wp2
   go_meet
   case rel => exact ⟨_, (decide ((l1.length : Int) > 16)), (by first | rfl | (simp; done) | (simp [*]; done)), H', ⟨by first | omega | exact Nat.le_refl _⟩, ⟨xB HB.out⟩⟩
 case rest =>
  clear HC3
  try clear c1
  try clear p2
  try clear c4
  try clear c4b0
  try clear c4b1
  obtain ⟨kq, x25_2, rfl, HA, HJ2, HB⟩ := hcut
  cases kq with
  | zero => exact absurd HA.out (by simp [texts_Put.j0])
  | succ kj2 =>
   have H := HA.out
   clear HA
   simp only [texts_Put.j0] at H
   by_cases c5 : x25_2 = true
   ·
    subst c5
    have H1 : (some (([] : List Int), 1)) = some (r1, r2) := by rw [if_pos rfl] at H; exact H
    clear H
    have H := H1
    clear H1
    simp only [Option.some.injEq, Prod.mk.injEq] at H
    obtain ⟨rfl, rfl⟩ := H
    go_wp2
    go_ret2
    exact ⟨_, by first | rfl | (simp [errW_none, errW_some] <;> rfl) | (simp [*, errW_none, errW_some] <;> rfl), by first | exact Kd.R_nil _ _ _ _ _ | exact Kd.N_nil _ _ _ _ _ | exact Kd.V_nil _ _ _ _ _ | exact Kd.Q_nil _ _ _ _ _ | exact Kd.S_nil _ _ _ _ _, xB HB.out⟩
   ·
    replace c5 := Bool.eq_false_iff.mpr c5
    subst c5
    have H1 : (if 0 ≤ (l1.length : Int) then (if ((l1.length : Int) : Int).toNat ≤ 35184372088832 then (texts_Put.l0 kj2 l0 l1 (List.replicate ((l1.length : Int) : Int).toNat 0) l1 (l1.length : Int) 0) else (none)) else (none)) = some (r1, r2) := by rw [if_neg (show ¬ (false = true) by decide)] at H; exact H
    clear H
    have H := H1
    clear H1
    by_cases c6 : 0 ≤ (l1.length : Int)
    ·
     rw [if_pos c6] at H
     have c6b0 := eq_true c6
     have c6b1 : decide (0 ≤ (l1.length : Int)) = true := decide_eq_true c6
     clear c6
     by_cases c7 : ((l1.length : Int) : Int).toNat ≤ 35184372088832
     ·
      rw [if_pos c7] at H
      have c7b0 := eq_true c7
      have c7b1 : decide (((l1.length : Int) : Int).toNat ≤ 35184372088832) = true := decide_eq_true c7
      clear c7
      obtain ⟨y231, hy231⟩ : ∃ y_ : List Int, y_ = (List.replicate ((l1.length : Int) : Int).toNat 0) := ⟨_, rfl⟩
      replace H : (texts_Put.l0 kj2 l0 l1 y231 l1 (l1.length : Int) 0) = some (r1, r2) := by first | (rw [hy231]; with_reducible exact H) | (have H2_ := (Option.bind_some _ _).symm.trans H; rw [hy231]; with_reducible exact H2_) | (have H2_ := (Option.bind_some _ _).symm.trans H; with_reducible exact H2_) | with_reducible exact H | (rw [hy231]; exact H) | exact H
      have Ny231 := aM hy231
      clear hy231
      have H' := aM H
      clear H
      go_wp2_with (first | ((with_reducible refine gate_dst (N := 28) rfl ?_); (try (refine gate_guard (by rfl) ?_; dsimp only)); refine Kd.R_make (Kd.int .u64) _ 40 rfl (N := 28) rfl 39 _ _ rfl (l1.length : Int) rfl rfl Try.underlying39 (.int .u64 0) 8 info40 rfl (by decide) (by omega) 0 (ok := fun _ => True) (okp := fun _ => True) rfl (fun _ hk => hk) trivial (of_decide_eq_true (by first | (with_reducible assumption) | assumption)) (Nat.le_trans (Nat.mul_le_mul_right _ (of_decide_eq_true (by first | (with_reducible assumption) | assumption) : (l1.length : Int).toNat ≤ 35184372088832)) (by omega)) (Below.refl _ _) (Nat.le_refl _) ?_; intro v232 w8 ho9 hb hg_ hnew_; clear hg_ hnew_; (first | rw [← Ny231.out] at ho9 | (simp only [Int.reduceToNat] at ho9; rw [← Ny231.out] at ho9)); have n0_ := aM (Kd.R_lower ho9 (below_size (xB HB.out))); have n1_ := aM (below_step (xB HB.out) hb); clear HB; have HO233 := n0_; have HB := n1_; clear n0_ n1_; clear hb ho9))
      go_loopg [31] kj2 (fun kq v31 w' => ∃ (x6_2 : List Int) (x31_2 : Int), v31 = .int .i64 x31_2 ∧ Aside0 (texts_Put.l0 kq l0 l1 x6_2 l1 (l1.length : Int) x31_2 = some (r1, r2)) ∧ Aside0 (kq ≤ kj2) ∧ Aside0 (Kd.R (Kd.int .u64) 40 w' w.heap.size (fun _ => True) v232 x6_2) ∧ Aside0 (Below w.heap.size w w'))
      case atStart => exact ⟨(y231), (0), (by first | rfl | (simp; done) | (simp [*]; done)), H', ⟨Nat.le_refl _⟩, ⟨by (with_reducible repeat (first | apply Kd.R_alloc | apply Kd.R_drewN | apply Kd.R_drew)); exact HO233.out⟩, ⟨xB HB.out⟩⟩
      case round =>
       clear H'
       try clear c1
       try clear p2
       try clear c4
       try clear c4b0
       try clear c4b1
       try clear c5
       try clear c6
       try clear c6b0
       try clear c6b1
       try clear c7
       try clear c7b0
       try clear c7b1
       try clear p2
       obtain ⟨x6_2, x31_2, rfl, HA, HK2, HO_6, HB⟩ := hrel
       cases gk with
       | zero => exact absurd HA.out (by simp [texts_Put.l0])
       | succ k2 =>
        have H := HA.out
        clear HA
        simp only [texts_Put.l0] at H
        by_cases c10 : x31_2 < (l1.length : Int)
        ·
         rw [if_pos c10] at H
         have c10b0 : decide (x31_2 < (l1.length : Int)) = true := decide_eq_true c10
         clear c10
         by_cases c11 : 0 ≤ x31_2
         ·
          rw [if_pos c11] at H
          have c11b0 : decide (0 ≤ x31_2) = true := decide_eq_true c11
          clear c11
          by_cases c12 : x31_2 < (l1.length : Int)
          ·
           rw [if_pos c12] at H
           have c12b0 : decide (x31_2 < (l1.length : Int)) = true := decide_eq_true c12
           clear c12
           by_cases c13 : ((rd_L1 l1 x31_2).length : Int) > 65536
           ·
            rw [if_pos c13] at H
            have c13b0 : decide (65536 < ((rd_L1 l1 x31_2).length : Int)) = true := decide_eq_true c13
            have c13b1 : decide (65536 < (rd_L1 l1 x31_2).length) = true := decide_eq_true (by omega)
            clear c13
            simp only [Option.some.injEq, Prod.mk.injEq] at H
            obtain ⟨rfl, rfl⟩ := H
            have p234 : 0 ≤ (x31_2 : Int) := of_decide_eq_true (by first | (with_reducible assumption) | assumption)
            have q234 : x31_2 < (l1.length : Int) := of_decide_eq_true (by first | (with_reducible assumption) | assumption)
            obtain ⟨ad234, A234_0, c234_0, e234, hx234_0, hl234_0, hi234_0⟩ := at_L1 HR1.out x31_2 p234 q234
            cases e234
            replace hx234_0 := (HB.out.cell (World.block_lt_of_cell? w _ hx234_0)).trans hx234_0
            have HR234_0 := aM hi234_0
            have HC234_0 := aM hl234_0
            clear hi234_0 hl234_0
            replace p234 := eq_true p234
            replace q234 := eq_true q234
            go_wp2
            go_ret2
            exact ⟨_, by first | rfl | (simp [errW_none, errW_some] <;> rfl) | (simp [*, errW_none, errW_some] <;> rfl), by first | exact Kd.R_nil _ _ _ _ _ | exact Kd.N_nil _ _ _ _ _ | exact Kd.V_nil _ _ _ _ _ | exact Kd.Q_nil _ _ _ _ _ | exact Kd.S_nil _ _ _ _ _, xB HB.out⟩
           ·
            rw [if_neg c13] at H
            have c13b0 : decide (65536 < ((rd_L1 l1 x31_2).length : Int)) = false := decide_eq_false c13
            have c13b1 : decide (65536 < (rd_L1 l1 x31_2).length) = false := decide_eq_false (by omega)
            clear c13
            by_cases c14 : x31_2 < (x6_2.length : Int)
            ·
             rw [if_pos c14] at H
             have c14b0 : decide (x31_2 < (x6_2.length : Int)) = true := decide_eq_true c14
             clear c14
             obtain ⟨y235, hy235⟩ : ∃ y_ : List Int, y_ = (x6_2.set (x31_2 : Int).toNat (IntKind.u64.wrap (((rd_L1 l1 x31_2).length : Int)))) := ⟨_, rfl⟩
             replace H : (texts_Put.l0 k2 l0 l1 y235 l1 (l1.length : Int) (wrap64 (x31_2 + 1))) = some (r1, r2) := by first | (rw [hy235]; with_reducible exact H) | (have H2_ := (Option.bind_some _ _).symm.trans H; rw [hy235]; with_reducible exact H2_) | (have H2_ := (Option.bind_some _ _).symm.trans H; with_reducible exact H2_) | with_reducible exact H | (rw [hy235]; exact H) | exact H
             have Ny235 := aM hy235
             clear hy235
             have H' := aM H
             clear H
             have p234 : 0 ≤ (x31_2 : Int) := of_decide_eq_true (by first | (with_reducible assumption) | assumption)
             have q234 : x31_2 < (l1.length : Int) := of_decide_eq_true (by first | (with_reducible assumption) | assumption)
             obtain ⟨ad234, A234_0, c234_0, e234, hx234_0, hl234_0, hi234_0⟩ := at_L1 HR1.out x31_2 p234 q234
             cases e234
             replace hx234_0 := (HB.out.cell (World.block_lt_of_cell? w _ hx234_0)).trans hx234_0
             have HR234_0 := aM hi234_0
             have HC234_0 := aM hl234_0
             clear hi234_0 hl234_0
             replace p234 := eq_true p234
             replace q234 := eq_true q234
             have p15 : 0 ≤ (x31_2 : Int) := of_decide_eq_true (by first | (with_reducible assumption) | assumption)
             have q15 : (x31_2 : Int) < ((x6_2.length : Int) : Int) := of_decide_eq_true (by first | (with_reducible assumption) | assumption)
             obtain ⟨go15, co15, eo15, gb15, gl15, cl15, HG15⟩ := Kd.R_form HO_6.out (by omega)
             (first | cases eo15 | (injection eo15 with ea_ en_ ec_; (first | subst ea_ | (injection ea_ with ea_; subst ea_)); subst ec_; clear en_))
             have GB15 := aM gb15
             have GG15 := aM HG15
             clear gb15 gl15 HG15
             obtain ⟨hx15_0, hf15_0⟩ := Kd.R_celln 0 HO_6.out (x31_2 : Int) p15 q15
             replace p15 := eq_true p15
             replace q15 := eq_true q15
             have HP16 := Kd.R_putg HO_6.out (x31_2 : Int) (IntKind.u64.wrap (((rd_L1 l1 x31_2).length : Int)))
             go_wp2_with (first | ((with_reducible refine gate_store (t := 40) (p := 44) rfl ?_); refine store_event (t := 40) (p := 44) (v := ?vo_w17) (w1 := (wr.setCell ⟨go15, (x31_2 : Int).toNat, none⟩ (.int .u64 (IntKind.u64.wrap (((rd_L1 l1 x31_2).length : Int)))))) ?hg ?ho ?hn ?hr ?_; (case ho => rfl); (case hg => rfl); (case hn => rfl); (case hr => first | (go_simp; done) | (go_simp; rfl)); intro w17 hw; have hg : wr.grownBy w17 (some go15) := (by rw [hw]; exact HP16.2); have hp_ : Kd.R (Kd.int .u64) 40 w17 w.heap.size (fun _ => True) (.slice (some ⟨go15, 0, none⟩) x6_2.length co15) y235 := (by rw [hw, Ny235.out]; exact HP16.1); clear HP16; have n0_ := aM (hp_); have n1_ := aM ((by rw [hw]; exact below_set (HB.out) GB15.out : Below w.heap.size w w17)); clear HO_6; clear HB; have HO_6 := n0_; have HB := n1_; clear n0_ n1_; clear hg hw hp_))
             go_roundg k2
             case measure => have := HJ2.out; have := HK2.out; omega
             case rel => exact ⟨(y235), (wrap64 (x31_2 + 1)), (by first | rfl | (simp; done) | (simp [*]; done)), H', ⟨by have := HJ2.out; have := HK2.out; omega⟩, ⟨by (with_reducible repeat (first | apply Kd.R_alloc | apply Kd.R_drewN | apply Kd.R_drew)); exact HO_6.out⟩, ⟨xB HB.out⟩⟩
            ·
             rw [if_neg c14] at H
             exact absurd H (by simp)
          ·
           rw [if_neg c12] at H
           exact absurd H (by simp)
         ·
          rw [if_neg c11] at H
          exact absurd H (by simp)
        ·
         rw [if_neg c10] at H
         have c10b0 : decide (x31_2 < (l1.length : Int)) = false := decide_eq_false c10
         clear c10
         replace H := Option.bind_eq_some_iff.mp H
         obtain ⟨t236, A180, H⟩ := H
         replace H : ((lz_Pack.f t236).bind fun t239 => ((sym_Train.f l1).bind fun t242 => ((sym_PutTable.f k2 ([] : List Int) t242).bind fun bt245 => ((sym_Encode.f t242 t236).bind fun bt249 => (if (wrap64 ((bt245.1.length : Int) + (bt249.1.length : Int))) < (t239.length : Int) then (if bt245.1.length + bt249.1.length < 140737488355328 then ((bytes_Clone.f l0).bind fun t256 => (if t256.length < 140737488355328 then ((pfor_PutList.f k2 (t256 ++ [2]) x6_2).bind fun t262 => ((num_PutRow.f k2 t262 (bt245.1 ++ bt249.1)).bind fun t265 => (some (t265, 0)))) else (none))) else (none)) else ((bytes_Clone.f l0).bind fun t268 => (if t268.length < 140737488355328 then ((pfor_PutList.f k2 (t268 ++ [1]) x6_2).bind fun t274 => ((num_PutRow.f k2 t274 t239).bind fun t277 => (some (t277, 0)))) else (none)))))))) = some (r1, r2) := H
         have A18 := aM A180
         clear A180
         replace H := Option.bind_eq_some_iff.mp H
         obtain ⟨t239, A190, H⟩ := H
         replace H : ((sym_Train.f l1).bind fun t242 => ((sym_PutTable.f k2 ([] : List Int) t242).bind fun bt245 => ((sym_Encode.f t242 t236).bind fun bt249 => (if (wrap64 ((bt245.1.length : Int) + (bt249.1.length : Int))) < (t239.length : Int) then (if bt245.1.length + bt249.1.length < 140737488355328 then ((bytes_Clone.f l0).bind fun t256 => (if t256.length < 140737488355328 then ((pfor_PutList.f k2 (t256 ++ [2]) x6_2).bind fun t262 => ((num_PutRow.f k2 t262 (bt245.1 ++ bt249.1)).bind fun t265 => (some (t265, 0)))) else (none))) else (none)) else ((bytes_Clone.f l0).bind fun t268 => (if t268.length < 140737488355328 then ((pfor_PutList.f k2 (t268 ++ [1]) x6_2).bind fun t274 => ((num_PutRow.f k2 t274 t239).bind fun t277 => (some (t277, 0)))) else (none))))))) = some (r1, r2) := H
         have A19 := aM A190
         clear A190
         replace H := Option.bind_eq_some_iff.mp H
         obtain ⟨t242, A200, H⟩ := H
         replace H : ((sym_PutTable.f k2 ([] : List Int) t242).bind fun bt245 => ((sym_Encode.f t242 t236).bind fun bt249 => (if (wrap64 ((bt245.1.length : Int) + (bt249.1.length : Int))) < (t239.length : Int) then (if bt245.1.length + bt249.1.length < 140737488355328 then ((bytes_Clone.f l0).bind fun t256 => (if t256.length < 140737488355328 then ((pfor_PutList.f k2 (t256 ++ [2]) x6_2).bind fun t262 => ((num_PutRow.f k2 t262 (bt245.1 ++ bt249.1)).bind fun t265 => (some (t265, 0)))) else (none))) else (none)) else ((bytes_Clone.f l0).bind fun t268 => (if t268.length < 140737488355328 then ((pfor_PutList.f k2 (t268 ++ [1]) x6_2).bind fun t274 => ((num_PutRow.f k2 t274 t239).bind fun t277 => (some (t277, 0)))) else (none)))))) = some (r1, r2) := H
         have A20 := aM A200
         clear A200
         replace H := Option.bind_eq_some_iff.mp H
         obtain ⟨⟨t245, t246⟩, A210, H⟩ := H
         replace H : ((sym_Encode.f t242 t236).bind fun bt249 => (if (wrap64 ((t245.length : Int) + (bt249.1.length : Int))) < (t239.length : Int) then (if t245.length + bt249.1.length < 140737488355328 then ((bytes_Clone.f l0).bind fun t256 => (if t256.length < 140737488355328 then ((pfor_PutList.f k2 (t256 ++ [2]) x6_2).bind fun t262 => ((num_PutRow.f k2 t262 (t245 ++ bt249.1)).bind fun t265 => (some (t265, 0)))) else (none))) else (none)) else ((bytes_Clone.f l0).bind fun t268 => (if t268.length < 140737488355328 then ((pfor_PutList.f k2 (t268 ++ [1]) x6_2).bind fun t274 => ((num_PutRow.f k2 t274 t239).bind fun t277 => (some (t277, 0)))) else (none))))) = some (r1, r2) := H
         have A21 := aM A210
         clear A210
         replace H := Option.bind_eq_some_iff.mp H
         obtain ⟨⟨t249, t250⟩, A220, H⟩ := H
         replace H : (if (wrap64 ((t245.length : Int) + (t249.length : Int))) < (t239.length : Int) then (if t245.length + t249.length < 140737488355328 then ((bytes_Clone.f l0).bind fun t256 => (if t256.length < 140737488355328 then ((pfor_PutList.f k2 (t256 ++ [2]) x6_2).bind fun t262 => ((num_PutRow.f k2 t262 (t245 ++ t249)).bind fun t265 => (some (t265, 0)))) else (none))) else (none)) else ((bytes_Clone.f l0).bind fun t268 => (if t268.length < 140737488355328 then ((pfor_PutList.f k2 (t268 ++ [1]) x6_2).bind fun t274 => ((num_PutRow.f k2 t274 t239).bind fun t277 => (some (t277, 0)))) else (none)))) = some (r1, r2) := H
         have A22 := aM A220
         clear A220
         by_cases c23 : (wrap64 ((t245.length : Int) + (t249.length : Int))) < (t239.length : Int)
         ·
          rw [if_pos c23] at H
          have c23b0 : decide ((wrap64 ((t245.length : Int) + (t249.length : Int))) < (t239.length : Int)) = true := decide_eq_true c23
          clear c23
          by_cases c24 : t245.length + t249.length < 140737488355328
          ·
           rw [if_pos c24] at H
           have LMc24 := aM c24
           clear c24
           obtain ⟨y253, hy253⟩ : ∃ y_ : List Int, y_ = (t245 ++ t249) := ⟨_, rfl⟩
           replace H : ((bytes_Clone.f l0).bind fun t256 => (if t256.length < 140737488355328 then ((pfor_PutList.f k2 (t256 ++ [2]) x6_2).bind fun t262 => ((num_PutRow.f k2 t262 y253).bind fun t265 => (some (t265, 0)))) else (none))) = some (r1, r2) := by first | (rw [hy253]; with_reducible exact H) | (have H2_ := (Option.bind_some _ _).symm.trans H; rw [hy253]; with_reducible exact H2_) | (have H2_ := (Option.bind_some _ _).symm.trans H; with_reducible exact H2_) | with_reducible exact H | (rw [hy253]; exact H) | exact H
           have Ny253 := aM hy253
           clear hy253
           replace H := Option.bind_eq_some_iff.mp H
           obtain ⟨t256, A250, H⟩ := H
           replace H : (if t256.length < 140737488355328 then ((pfor_PutList.f k2 (t256 ++ [2]) x6_2).bind fun t262 => ((num_PutRow.f k2 t262 y253).bind fun t265 => (some (t265, 0)))) else (none)) = some (r1, r2) := H
           have A25 := aM A250
           clear A250
           by_cases c26 : t256.length < 140737488355328
           ·
            rw [if_pos c26] at H
            have LMc26 := aM c26
            clear c26
            obtain ⟨y259, hy259⟩ : ∃ y_ : List Int, y_ = (t256 ++ [2]) := ⟨_, rfl⟩
            replace H : ((pfor_PutList.f k2 y259 x6_2).bind fun t262 => ((num_PutRow.f k2 t262 y253).bind fun t265 => (some (t265, 0)))) = some (r1, r2) := by first | (rw [hy259]; with_reducible exact H) | (have H2_ := (Option.bind_some _ _).symm.trans H; rw [hy259]; with_reducible exact H2_) | (have H2_ := (Option.bind_some _ _).symm.trans H; with_reducible exact H2_) | with_reducible exact H | (rw [hy259]; exact H) | exact H
            have Ny259 := aM hy259
            clear hy259
            replace H := Option.bind_eq_some_iff.mp H
            obtain ⟨t262, A270, H⟩ := H
            replace H : ((num_PutRow.f k2 t262 y253).bind fun t265 => (some (t265, 0))) = some (r1, r2) := H
            have A27 := aM A270
            clear A270
            replace H := Option.bind_eq_some_iff.mp H
            obtain ⟨t265, A280, H⟩ := H
            replace H : (some (t265, 0)) = some (r1, r2) := H
            have A28 := aM A280
            clear A280
            simp only [Option.some.injEq, Prod.mk.injEq] at H
            obtain ⟨rfl, rfl⟩ := H
            go_wp2_with (first | ((with_reducible refine gate_callee (f := 16) rfl ?_); refine goesL_ (some 47) rfl rfl Try.func16 (by kernel_rfl) rfl #[.slice A1 l1.length c1, .slice none 0 0] rfl (by (try simp only [List.map_toArray, List.map_cons, List.map_nil]); first | done | rfl | (simp only [List.length_drop, List.length_take]; rfl)) ?_; (refine (bytes_Join.calls _ _ l1 _ _ ([] : List Int) t236 _ ?side1 ?side2 ?side3 ?side4 A18.out).mono ?_); (case side1 => exact xC (Kd.C_below HR1.out HB.out)); (case side2 => exact HC1.out); (case side3 => exact Kd.C_nil _ _); (case side4 => exact Nat.le_refl _); rintro e w29 ⟨v237, rfl, ho0, hb⟩; refine ⟨_, rfl, ?_⟩; have n0_ := aM (Kd.R_below (xR HO_6.out) hb); have n1_ := aM (Kd.V_lower (Kd.V_mono (ok' := fun k_ => some k_ ≠ (v232 : Value).ownBlock) ho0 (fun k_ hk_ => (Kd.fresh' (Kd.R_lt (xR HO_6.out)) k_ hk_))) (below_size (xB HB.out))); have n2_ := aM (below_step (xB HB.out) hb); clear HO_6; clear HB; have HO_6 := n0_; have HO238 := n1_; have HB := n2_; clear n0_ n1_ n2_; (try clear hb); (try clear hb2); (try clear hk); (try clear hi); (try clear ho0); obtain ⟨Ao30, co30, eo30⟩ := Kd.V_slice HO238.out; subst eo30) | ((with_reducible refine gate_callee (f := 17) rfl ?_); refine goesL_ (some 49) rfl rfl Try.func17 (by kernel_rfl) rfl #[.slice Ao30 t236.length co30] rfl (by (try simp only [List.map_toArray, List.map_cons, List.map_nil]); first | done | rfl | (simp only [List.length_drop, List.length_take]; rfl)) ?_; (with_reducible refine (lz_Pack.calls _ _ t236 t239 _ ?side1 ?side2 A19.out).mono ?_); (case side1 => exact xC ((Kd.V_reads' HO238.out).2.2)); (case side2 => exact (Kd.V_reads' HO238.out).2.1); rintro e w31 ⟨v240, rfl, ho0, hb⟩; refine ⟨_, rfl, ?_⟩; have n0_ := aM (Kd.R_below (xR HO_6.out) hb); have n1_ := aM (Kd.V_elder' (xV HO238.out) (Kd.R_base ho0) hb); have n2_ := aM (Kd.R_lower ho0 (below_size (xB HB.out))); have n3_ := aM (below_step (xB HB.out) hb); clear HO_6; clear HO238; clear HB; have HO_6 := n0_; have HO238 := n1_; have HO241 := n2_; have HB := n3_; clear n0_ n1_ n2_ n3_; (try clear hb); (try clear hb2); (try clear hk); (try clear hi); (try clear ho0)) | ((with_reducible refine gate_callee (f := 18) rfl ?_); refine goesL_ (some 51) rfl rfl Try.func18 (by kernel_rfl) rfl #[.slice A1 l1.length c1] rfl (by (try simp only [List.map_toArray, List.map_cons, List.map_nil]); first | done | rfl | (simp only [List.length_drop, List.length_take]; rfl)) ?_; (with_reducible refine (sym_Train.calls _ _ l1 t242 _ ?side1 ?side2 A20.out).mono ?_); (case side1 => exact xC (Kd.C_below HR1.out HB.out)); (case side2 => exact HC1.out); rintro e w32 ⟨v243, rfl, ho0, hb⟩; refine ⟨_, rfl, ?_⟩; have n0_ := aM (Kd.R_below (xR HO_6.out) hb); have n1_ := aM (Kd.V_elder' (xV HO238.out) (Kd.R_base ho0) hb); have n2_ := aM (Kd.R_below (xR HO241.out) hb); have n3_ := aM (Kd.R_lower ho0 (below_size (xB HB.out))); have n4_ := aM (below_step (xB HB.out) hb); clear HO_6; clear HO238; clear HO241; clear HB; have HO_6 := n0_; have HO238 := n1_; have HO241 := n2_; have HO244 := n3_; have HB := n4_; clear n0_ n1_ n2_ n3_ n4_; (try clear hb); (try clear hb2); (try clear hk); (try clear hi); (try clear ho0); obtain ⟨Ao33, co33, eo33⟩ := Kd.R_slice HO244.out; subst eo33) | ((with_reducible refine gate_callee (f := 19) rfl ?_); refine goesL_ (some 54) rfl rfl Try.func19 (by kernel_rfl) rfl #[.slice none 0 0, .slice Ao33 t242.length co33] rfl (by (try simp only [List.map_toArray, List.map_cons, List.map_nil]); first | done | rfl | (simp only [List.length_drop, List.length_take]; rfl)) ?_; (refine (sym_PutTable.calls k2 _ _ ([] : List Int) _ _ t242 t245 t246 _ ?side1 ?side2 ?side3 ?side4 A21.out).mono ?_); (case side1 => exact Kd.C_nil _ _); (case side2 => exact Nat.le_refl _); (case side3 => exact xC ((Kd.R_reads' HO244.out).2.2)); (case side4 => exact (Kd.R_reads' HO244.out).2.1); rintro e w34 ⟨v247, rfl, ho0, hb⟩; refine ⟨_, rfl, ?_⟩; have n0_ := aM (Kd.R_below (xR HO_6.out) hb); have n1_ := aM (Kd.V_elder' (xV HO238.out) (Kd.R_base ho0) hb); have n2_ := aM (Kd.R_elder' (xR HO241.out) (Kd.R_base ho0) hb); have n3_ := aM (Kd.R_below (xR HO244.out) hb); have n4_ := aM (Kd.R_lower (Kd.R_new' ho0 (Kd.R_lt (xR HO241.out))) (below_size (xB HB.out))); have n5_ := aM (below_step (xB HB.out) hb); clear HO_6; clear HO238; clear HO241; clear HO244; clear HB; have HO_6 := n0_; have HO238 := n1_; have HO241 := n2_; have HO244 := n3_; have HO248 := n4_; have HB := n5_; clear n0_ n1_ n2_ n3_ n4_ n5_; (try clear hb); (try clear hb2); (try clear hk); (try clear hi); (try clear ho0)) | ((with_reducible refine gate_callee (f := 20) rfl ?_); refine goesL_ (some 60) rfl rfl Try.func20 (by kernel_rfl) rfl #[.slice Ao33 t242.length co33, .slice Ao30 t236.length co30] rfl (by (try simp only [List.map_toArray, List.map_cons, List.map_nil]); first | done | rfl | (simp only [List.length_drop, List.length_take]; rfl)) ?_; (with_reducible refine (sym_Encode.calls _ _ t242 _ _ t236 t249 t250 _ ?side1 ?side2 ?side3 ?side4 A22.out).mono ?_); (case side1 => exact xC ((Kd.R_reads' HO244.out).2.2)); (case side2 => exact (Kd.R_reads' HO244.out).2.1); (case side3 => exact xC ((Kd.V_reads' HO238.out).2.2)); (case side4 => exact (Kd.V_reads' HO238.out).2.1); rintro e w35 ⟨v251, rfl, ho0, hb⟩; refine ⟨_, rfl, ?_⟩; have n0_ := aM (Kd.R_below (xR HO_6.out) hb); have n1_ := aM (Kd.V_elder' (xV HO238.out) (Kd.R_base ho0) hb); have n2_ := aM (Kd.R_elder' (xR HO241.out) (Kd.R_base ho0) hb); have n3_ := aM (Kd.R_below (xR HO244.out) hb); have n4_ := aM (Kd.R_elder' (xR HO248.out) (Kd.R_base ho0) hb); have n5_ := aM (Kd.R_lower (Kd.R_new' (Kd.R_new' ho0 (Kd.R_lt (xR HO241.out))) (Kd.R_lt (xR HO248.out))) (below_size (xB HB.out))); have n6_ := aM (below_step (xB HB.out) hb); clear HO_6; clear HO238; clear HO241; clear HO244; clear HO248; clear HB; have HO_6 := n0_; have HO238 := n1_; have HO241 := n2_; have HO244 := n3_; have HO248 := n4_; have HO252 := n5_; have HB := n6_; clear n0_ n1_ n2_ n3_ n4_ n5_ n6_; (try clear hb); (try clear hb2); (try clear hk); (try clear hi); (try clear ho0); obtain ⟨Ao36, co36, eo36⟩ := Kd.R_slice HO248.out; subst eo36; obtain ⟨Ao37, co37, eo37⟩ := Kd.R_slice HO252.out; subst eo37; obtain ⟨Ao38, co38, eo38⟩ := Kd.R_slice HO241.out; subst eo38) | ((with_reducible refine gate_builtin (b := .append) (xs := #[.tmp 71, .tmp 72]) rfl ?_); (try (refine gate_guard (by rfl) ?_; dsimp only)); at_builtin; refine Kd.R_append_rows (Kd.int .u8) (w0 := w) w.heap.size rfl (.tmp 71) (.tmp 72) 22 5 (.int .u8 0) 1 rfl Try.underlying22 info5 rfl (by decide) (by omega) (.slice Ao36 t245.length co36) t245 t249 _ _ _ (fun k_ => some k_ ≠ (.slice Ao38 t239.length co38 : Value).ownBlock ∧ some k_ ≠ (.slice Ao37 t249.length co37 : Value).ownBlock) (fun _ => False) rfl rfl ?aO ?aR (fun _ _ h => h) (fun _ h => h.elim) ?aF ?aB ?aS ?aL ?_; (case aR => exact xC ((Kd.R_reads' HO252.out).2.2)); (case aB => exact (xB HB.out)); (case aF => exact (fun k_ hk => ⟨Kd.fresh' (Kd.R_lt (xR HO241.out)) k_ hk, Kd.fresh' (Kd.R_lt (xR HO252.out)) k_ hk⟩)); (case aO => exact (by (with_reducible repeat (first | apply Kd.R_alloc | apply Kd.R_drewN | apply Kd.R_drew)); exact Kd.R_mono HO248.out (fun _ hk => ⟨hk.1.2, hk.2⟩))); (case aS => exact (below_size (xB HB.out))); (case aL => have := LMc24.out; omega); intro v254 w39 ho hb hg hat; rw [← Ny253.out] at ho; have n0_ := aM (Kd.R_over' (xR HO_6.out) (Kd.R_typed (xR HO248.out)) (by decide) hg); have n1_ := aM (Kd.V_afterv (ok := (fun k_ => some k_ ≠ (v232 : Value).ownBlock ∧ some k_ ≠ (.slice Ao38 t239.length co38 : Value).ownBlock ∧ some k_ ≠ (.slice Ao33 t242.length co33 : Value).ownBlock ∧ some k_ ≠ (.slice Ao37 t249.length co37 : Value).ownBlock)) (by (with_reducible repeat (first | apply Kd.V_alloc | apply Kd.V_drewN | apply Kd.V_drew)); exact Kd.V_mono HO238.out (fun _ hk => ⟨⟨hk.1.1.1.1, ⟨hk.1.1.1.2, ⟨hk.1.1.2, hk.2⟩⟩⟩, hk.1.2⟩)) hg hat); have n2_ := aM (Kd.R_after (ok := (fun k_ => some k_ ≠ (.slice Ao37 t249.length co37 : Value).ownBlock)) (by (with_reducible repeat (first | apply Kd.R_alloc | apply Kd.R_drewN | apply Kd.R_drew)); exact Kd.R_mono HO241.out (fun _ hk => ⟨hk.2, hk.1.2⟩)) hg hat); have n3_ := aM (Kd.R_over' (xR HO244.out) (Kd.R_typed (xR HO248.out)) (by decide) hg); have n4_ := aM (Kd.R_after (ok := (fun k_ => some k_ ≠ (.slice Ao38 t239.length co38 : Value).ownBlock)) (by (with_reducible repeat (first | apply Kd.R_alloc | apply Kd.R_drewN | apply Kd.R_drew)); exact Kd.R_mono HO252.out (fun _ hk => ⟨hk.1.2, hk.2⟩)) hg hat); have n5_ := aM (hb); have n6_ := aM (ho); clear HO_6; clear HO238; clear HO241; clear HO244; clear HO252; clear HB; clear HO248; have HO_6 := n0_; have HO238 := n1_; have HO241 := n2_; have HO244 := n3_; have HO252 := n4_; have HB := n5_; have HO255 := n6_; clear n0_ n1_ n2_ n3_ n4_ n5_ n6_; clear ho hb hg hat) | ((with_reducible refine gate_callee (f := 21) rfl ?_); refine goesL_ (some 75) rfl rfl Try.func21 (by kernel_rfl) rfl #[.slice A0 l0.length c0] rfl (by (try simp only [List.map_toArray, List.map_cons, List.map_nil]); first | done | rfl | (simp only [List.length_drop, List.length_take]; rfl)) ?_; (with_reducible refine (bytes_Clone.calls _ _ l0 t256 _ ?side1 ?side2 A25.out).mono ?_); (case side1 => exact xC (Kd.C_below HR0.out HB.out)); (case side2 => exact HC0.out); rintro e w40 ⟨v257, rfl, ho0, hb⟩; refine ⟨_, rfl, ?_⟩; have n0_ := aM (Kd.R_below (xR HO_6.out) hb); have n1_ := aM (Kd.V_elder' (xV HO238.out) (Kd.R_base ho0) hb); have n2_ := aM (Kd.R_elder' (xR HO241.out) (Kd.R_base ho0) hb); have n3_ := aM (Kd.R_below (xR HO244.out) hb); have n4_ := aM (Kd.R_elder' (xR HO252.out) (Kd.R_base ho0) hb); have n5_ := aM (Kd.R_elder' (xR HO255.out) (Kd.R_base ho0) hb); have n6_ := aM (Kd.R_lower (Kd.R_new' (Kd.R_new' (Kd.R_new' ho0 (Kd.R_lt (xR HO241.out))) (Kd.R_lt (xR HO252.out))) (Kd.R_lt (xR HO255.out))) (below_size (xB HB.out))); have n7_ := aM (below_step (xB HB.out) hb); clear HO_6; clear HO238; clear HO241; clear HO244; clear HO252; clear HO255; clear HB; have HO_6 := n0_; have HO238 := n1_; have HO241 := n2_; have HO244 := n3_; have HO252 := n4_; have HO255 := n5_; have HO258 := n6_; have HB := n7_; clear n0_ n1_ n2_ n3_ n4_ n5_ n6_ n7_; (try clear hb); (try clear hb2); (try clear hk); (try clear hi); (try clear ho0)) | ((with_reducible refine gate_builtin (b := .append) (xs := #[.tmp 75, .tmp 77]) rfl ?_); (try (refine gate_guard (by rfl) ?_; dsimp only)); at_builtin; refine Kd.R_append (Kd.int .u8) (w0 := w) w.heap.size rfl (.tmp 75) (.tmp 77) 22 5 (.int .u8 0) 1 rfl Try.underlying22 info5 rfl (by decide) (by omega) v257 t256 2 [.int .u8 2] (fun k_ => some k_ ≠ (.slice Ao38 t239.length co38 : Value).ownBlock ∧ some k_ ≠ (.slice Ao37 t249.length co37 : Value).ownBlock ∧ some k_ ≠ (v254 : Value).ownBlock) (fun _ => False) rfl rfl ?aP (fun _ hk => hk.elim) ?aF ?aO ?aB ?aS ?aL ?_; (case aP => exact rfl); (case aB => exact (xB HB.out)); (case aF => exact (fun k_ hk => ⟨Kd.fresh' (Kd.R_lt (xR HO241.out)) k_ hk, Kd.fresh' (Kd.R_lt (xR HO252.out)) k_ hk, Kd.fresh' (Kd.R_lt (xR HO255.out)) k_ hk⟩)); (case aO => exact (by (with_reducible repeat (first | apply Kd.R_alloc | apply Kd.R_drewN | apply Kd.R_drew)); exact Kd.R_mono HO258.out (fun _ hk => ⟨hk.1.1.2, ⟨hk.1.2, hk.2⟩⟩))); (case aS => exact (below_size (xB HB.out))); (case aL => have := LMc26.out; omega); intro v260 w41 ho hb hg hat; rw [← Ny259.out] at ho; have n0_ := aM (Kd.R_over' (xR HO_6.out) (Kd.R_typed (xR HO258.out)) (by decide) hg); have n1_ := aM (Kd.V_afterv (ok := (fun k_ => some k_ ≠ (v232 : Value).ownBlock ∧ some k_ ≠ (.slice Ao38 t239.length co38 : Value).ownBlock ∧ some k_ ≠ (.slice Ao33 t242.length co33 : Value).ownBlock ∧ some k_ ≠ (.slice Ao37 t249.length co37 : Value).ownBlock ∧ some k_ ≠ (v254 : Value).ownBlock)) (by (with_reducible repeat (first | apply Kd.V_alloc | apply Kd.V_drewN | apply Kd.V_drew)); exact Kd.V_mono HO238.out (fun _ hk => ⟨⟨hk.1.1.1, ⟨hk.1.1.2.1, ⟨hk.1.1.2.2.1, ⟨hk.1.1.2.2.2, hk.1.2⟩⟩⟩⟩, hk.2⟩)) hg hat); have n2_ := aM (Kd.R_after (ok := (fun k_ => some k_ ≠ (.slice Ao37 t249.length co37 : Value).ownBlock ∧ some k_ ≠ (v254 : Value).ownBlock)) (xR HO241.out) hg hat); have n3_ := aM (Kd.R_over' (xR HO244.out) (Kd.R_typed (xR HO258.out)) (by decide) hg); have n4_ := aM (Kd.R_after (ok := (fun k_ => some k_ ≠ (.slice Ao38 t239.length co38 : Value).ownBlock ∧ some k_ ≠ (v254 : Value).ownBlock)) (xR HO252.out) hg hat); have n5_ := aM (Kd.R_after (ok := (fun k_ => some k_ ≠ (.slice Ao38 t239.length co38 : Value).ownBlock ∧ some k_ ≠ (.slice Ao37 t249.length co37 : Value).ownBlock)) (xR HO255.out) hg hat); have n6_ := aM (hb); have n7_ := aM (ho); clear HO_6; clear HO238; clear HO241; clear HO244; clear HO252; clear HO255; clear HB; clear HO258; have HO_6 := n0_; have HO238 := n1_; have HO241 := n2_; have HO244 := n3_; have HO252 := n4_; have HO255 := n5_; have HB := n6_; have HO261 := n7_; clear n0_ n1_ n2_ n3_ n4_ n5_ n6_ n7_; clear ho hb hg hat; obtain ⟨Ao42, co42, eo42⟩ := Kd.R_slice HO261.out; subst eo42; obtain ⟨Ao43, co43, eo43⟩ := Kd.R_slice HO_6.out; subst eo43) | ((with_reducible refine gate_callee (f := 23) rfl ?_); refine goesL_ (some 81) rfl rfl Try.func23 (by kernel_rfl) rfl #[.slice Ao42 y259.length co42, .slice Ao43 x6_2.length co43] rfl (by (try simp only [List.map_toArray, List.map_cons, List.map_nil]); first | done | rfl | (simp only [List.length_drop, List.length_take]; rfl)) ?_; (with_reducible refine (pfor_PutList.calls k2 _ _ y259 _ _ x6_2 t262 _ ?side1 ?side2 ?side3 ?side4 A27.out).mono ?_); (case side1 => exact xC ((Kd.R_reads' HO261.out).2.2)); (case side2 => exact (Kd.R_reads' HO261.out).2.1); (case side3 => exact xC ((Kd.R_reads' HO_6.out).2.2)); (case side4 => exact (Kd.R_reads' HO_6.out).2.1); rintro e w44 ⟨v263, rfl, ho0, hb⟩; refine ⟨_, rfl, ?_⟩; have n0_ := aM (Kd.R_below (xR HO_6.out) hb); have n1_ := aM (Kd.V_elder' (xV HO238.out) (Kd.R_base ho0) hb); have n2_ := aM (Kd.R_elder' (xR HO241.out) (Kd.R_base ho0) hb); have n3_ := aM (Kd.R_below (xR HO244.out) hb); have n4_ := aM (Kd.R_elder' (xR HO252.out) (Kd.R_base ho0) hb); have n5_ := aM (Kd.R_elder' (xR HO255.out) (Kd.R_base ho0) hb); have n6_ := aM (Kd.R_elder' (xR HO261.out) (Kd.R_base ho0) hb); have n7_ := aM (Kd.R_lower (Kd.R_new' (Kd.R_new' (Kd.R_new' (Kd.R_new' ho0 (Kd.R_lt (xR HO241.out))) (Kd.R_lt (xR HO252.out))) (Kd.R_lt (xR HO255.out))) (Kd.R_lt (xR HO261.out))) (below_size (xB HB.out))); have n8_ := aM (below_step (xB HB.out) hb); clear HO_6; clear HO238; clear HO241; clear HO244; clear HO252; clear HO255; clear HO261; clear HB; have HO_6 := n0_; have HO238 := n1_; have HO241 := n2_; have HO244 := n3_; have HO252 := n4_; have HO255 := n5_; have HO261 := n6_; have HO264 := n7_; have HB := n8_; clear n0_ n1_ n2_ n3_ n4_ n5_ n6_ n7_ n8_; (try clear hb); (try clear hb2); (try clear hk); (try clear hi); (try clear ho0); obtain ⟨Ao45, co45, eo45⟩ := Kd.R_slice HO264.out; subst eo45; obtain ⟨Ao46, co46, eo46⟩ := Kd.R_slice HO255.out; subst eo46) | ((with_reducible refine gate_callee (f := 22) rfl ?_); refine goesL_ (some 83) rfl rfl Try.func22 (by kernel_rfl) rfl #[.slice Ao45 t262.length co45, .slice Ao46 y253.length co46] rfl (by (try simp only [List.map_toArray, List.map_cons, List.map_nil]); first | done | rfl | (simp only [List.length_drop, List.length_take]; rfl)) ?_; (with_reducible refine (num_PutRow.calls k2 _ _ t262 _ _ y253 t265 _ ?side1 ?side2 ?side3 ?side4 A28.out).mono ?_); (case side1 => exact xC ((Kd.R_reads' HO264.out).2.2)); (case side2 => exact (Kd.R_reads' HO264.out).2.1); (case side3 => exact xC ((Kd.R_reads' HO255.out).2.2)); (case side4 => exact (Kd.R_reads' HO255.out).2.1); rintro e w47 ⟨v266, rfl, ho0, hb⟩; refine ⟨_, rfl, ?_⟩; have n0_ := aM (Kd.R_below (xR HO_6.out) hb); have n1_ := aM (Kd.V_elder' (xV HO238.out) (Kd.R_base ho0) hb); have n2_ := aM (Kd.R_elder' (xR HO241.out) (Kd.R_base ho0) hb); have n3_ := aM (Kd.R_below (xR HO244.out) hb); have n4_ := aM (Kd.R_elder' (xR HO252.out) (Kd.R_base ho0) hb); have n5_ := aM (Kd.R_elder' (xR HO255.out) (Kd.R_base ho0) hb); have n6_ := aM (Kd.R_elder' (xR HO261.out) (Kd.R_base ho0) hb); have n7_ := aM (Kd.R_elder' (xR HO264.out) (Kd.R_base ho0) hb); have n8_ := aM (Kd.R_lower (Kd.R_new' (Kd.R_new' (Kd.R_new' (Kd.R_new' (Kd.R_new' ho0 (Kd.R_lt (xR HO241.out))) (Kd.R_lt (xR HO252.out))) (Kd.R_lt (xR HO255.out))) (Kd.R_lt (xR HO261.out))) (Kd.R_lt (xR HO264.out))) (below_size (xB HB.out))); have n9_ := aM (below_step (xB HB.out) hb); clear HO_6; clear HO238; clear HO241; clear HO244; clear HO252; clear HO255; clear HO261; clear HO264; clear HB; have HO_6 := n0_; have HO238 := n1_; have HO241 := n2_; have HO244 := n3_; have HO252 := n4_; have HO255 := n5_; have HO261 := n6_; have HO264 := n7_; have HO267 := n8_; have HB := n9_; clear n0_ n1_ n2_ n3_ n4_ n5_ n6_ n7_ n8_ n9_; (try clear hb); (try clear hb2); (try clear hk); (try clear hi); (try clear ho0)))
            go_ret2
            exact ⟨_, by first | rfl | (simp [errW_none, errW_some] <;> rfl) | (simp [*, errW_none, errW_some] <;> rfl), by (with_reducible repeat (first | apply Kd.R_alloc | apply Kd.R_drewN | apply Kd.R_drew)); exact Kd.R_mono HO267.out (fun _ hk => trivial), xB HB.out⟩
           ·
            rw [if_neg c26] at H
            exact absurd H (by simp)
          ·
           rw [if_neg c24] at H
           exact absurd H (by simp)
         ·
          rw [if_neg c23] at H
          have c23b0 : decide ((wrap64 ((t245.length : Int) + (t249.length : Int))) < (t239.length : Int)) = false := decide_eq_false c23
          clear c23
          replace H := Option.bind_eq_some_iff.mp H
          obtain ⟨t268, A480, H⟩ := H
          replace H : (if t268.length < 140737488355328 then ((pfor_PutList.f k2 (t268 ++ [1]) x6_2).bind fun t274 => ((num_PutRow.f k2 t274 t239).bind fun t277 => (some (t277, 0)))) else (none)) = some (r1, r2) := H
          have A48 := aM A480
          clear A480
          by_cases c49 : t268.length < 140737488355328
          ·
           rw [if_pos c49] at H
           have LMc49 := aM c49
           clear c49
           obtain ⟨y271, hy271⟩ : ∃ y_ : List Int, y_ = (t268 ++ [1]) := ⟨_, rfl⟩
           replace H : ((pfor_PutList.f k2 y271 x6_2).bind fun t274 => ((num_PutRow.f k2 t274 t239).bind fun t277 => (some (t277, 0)))) = some (r1, r2) := by first | (rw [hy271]; with_reducible exact H) | (have H2_ := (Option.bind_some _ _).symm.trans H; rw [hy271]; with_reducible exact H2_) | (have H2_ := (Option.bind_some _ _).symm.trans H; with_reducible exact H2_) | with_reducible exact H | (rw [hy271]; exact H) | exact H
           have Ny271 := aM hy271
           clear hy271
           replace H := Option.bind_eq_some_iff.mp H
           obtain ⟨t274, A500, H⟩ := H
           replace H : ((num_PutRow.f k2 t274 t239).bind fun t277 => (some (t277, 0))) = some (r1, r2) := H
           have A50 := aM A500
           clear A500
           replace H := Option.bind_eq_some_iff.mp H
           obtain ⟨t277, A510, H⟩ := H
           replace H : (some (t277, 0)) = some (r1, r2) := H
           have A51 := aM A510
           clear A510
           simp only [Option.some.injEq, Prod.mk.injEq] at H
           obtain ⟨rfl, rfl⟩ := H
           go_wp2_with (first | ((with_reducible refine gate_callee (f := 16) rfl ?_); refine goesL_ (some 47) rfl rfl Try.func16 (by kernel_rfl) rfl #[.slice A1 l1.length c1, .slice none 0 0] rfl (by (try simp only [List.map_toArray, List.map_cons, List.map_nil]); first | done | rfl | (simp only [List.length_drop, List.length_take]; rfl)) ?_; (refine (bytes_Join.calls _ _ l1 _ _ ([] : List Int) t236 _ ?side1 ?side2 ?side3 ?side4 A18.out).mono ?_); (case side1 => exact xC (Kd.C_below HR1.out HB.out)); (case side2 => exact HC1.out); (case side3 => exact Kd.C_nil _ _); (case side4 => exact Nat.le_refl _); rintro e w52 ⟨v237, rfl, ho0, hb⟩; refine ⟨_, rfl, ?_⟩; have n0_ := aM (Kd.R_below (xR HO_6.out) hb); have n1_ := aM (Kd.V_lower (Kd.V_mono (ok' := fun k_ => some k_ ≠ (v232 : Value).ownBlock) ho0 (fun k_ hk_ => (Kd.fresh' (Kd.R_lt (xR HO_6.out)) k_ hk_))) (below_size (xB HB.out))); have n2_ := aM (below_step (xB HB.out) hb); clear HO_6; clear HB; have HO_6 := n0_; have HO238 := n1_; have HB := n2_; clear n0_ n1_ n2_; (try clear hb); (try clear hb2); (try clear hk); (try clear hi); (try clear ho0); obtain ⟨Ao53, co53, eo53⟩ := Kd.V_slice HO238.out; subst eo53) | ((with_reducible refine gate_callee (f := 17) rfl ?_); refine goesL_ (some 49) rfl rfl Try.func17 (by kernel_rfl) rfl #[.slice Ao53 t236.length co53] rfl (by (try simp only [List.map_toArray, List.map_cons, List.map_nil]); first | done | rfl | (simp only [List.length_drop, List.length_take]; rfl)) ?_; (with_reducible refine (lz_Pack.calls _ _ t236 t239 _ ?side1 ?side2 A19.out).mono ?_); (case side1 => exact xC ((Kd.V_reads' HO238.out).2.2)); (case side2 => exact (Kd.V_reads' HO238.out).2.1); rintro e w54 ⟨v240, rfl, ho0, hb⟩; refine ⟨_, rfl, ?_⟩; have n0_ := aM (Kd.R_below (xR HO_6.out) hb); have n1_ := aM (Kd.V_elder' (xV HO238.out) (Kd.R_base ho0) hb); have n2_ := aM (Kd.R_lower ho0 (below_size (xB HB.out))); have n3_ := aM (below_step (xB HB.out) hb); clear HO_6; clear HO238; clear HB; have HO_6 := n0_; have HO238 := n1_; have HO241 := n2_; have HB := n3_; clear n0_ n1_ n2_ n3_; (try clear hb); (try clear hb2); (try clear hk); (try clear hi); (try clear ho0)) | ((with_reducible refine gate_callee (f := 18) rfl ?_); refine goesL_ (some 51) rfl rfl Try.func18 (by kernel_rfl) rfl #[.slice A1 l1.length c1] rfl (by (try simp only [List.map_toArray, List.map_cons, List.map_nil]); first | done | rfl | (simp only [List.length_drop, List.length_take]; rfl)) ?_; (with_reducible refine (sym_Train.calls _ _ l1 t242 _ ?side1 ?side2 A20.out).mono ?_); (case side1 => exact xC (Kd.C_below HR1.out HB.out)); (case side2 => exact HC1.out); rintro e w55 ⟨v243, rfl, ho0, hb⟩; refine ⟨_, rfl, ?_⟩; have n0_ := aM (Kd.R_below (xR HO_6.out) hb); have n1_ := aM (Kd.V_elder' (xV HO238.out) (Kd.R_base ho0) hb); have n2_ := aM (Kd.R_below (xR HO241.out) hb); have n3_ := aM (Kd.R_lower ho0 (below_size (xB HB.out))); have n4_ := aM (below_step (xB HB.out) hb); clear HO_6; clear HO238; clear HO241; clear HB; have HO_6 := n0_; have HO238 := n1_; have HO241 := n2_; have HO244 := n3_; have HB := n4_; clear n0_ n1_ n2_ n3_ n4_; (try clear hb); (try clear hb2); (try clear hk); (try clear hi); (try clear ho0); obtain ⟨Ao56, co56, eo56⟩ := Kd.R_slice HO244.out; subst eo56) | ((with_reducible refine gate_callee (f := 19) rfl ?_); refine goesL_ (some 54) rfl rfl Try.func19 (by kernel_rfl) rfl #[.slice none 0 0, .slice Ao56 t242.length co56] rfl (by (try simp only [List.map_toArray, List.map_cons, List.map_nil]); first | done | rfl | (simp only [List.length_drop, List.length_take]; rfl)) ?_; (refine (sym_PutTable.calls k2 _ _ ([] : List Int) _ _ t242 t245 t246 _ ?side1 ?side2 ?side3 ?side4 A21.out).mono ?_); (case side1 => exact Kd.C_nil _ _); (case side2 => exact Nat.le_refl _); (case side3 => exact xC ((Kd.R_reads' HO244.out).2.2)); (case side4 => exact (Kd.R_reads' HO244.out).2.1); rintro e w57 ⟨v247, rfl, ho0, hb⟩; refine ⟨_, rfl, ?_⟩; have n0_ := aM (Kd.R_below (xR HO_6.out) hb); have n1_ := aM (Kd.V_elder' (xV HO238.out) (Kd.R_base ho0) hb); have n2_ := aM (Kd.R_elder' (xR HO241.out) (Kd.R_base ho0) hb); have n3_ := aM (Kd.R_below (xR HO244.out) hb); have n4_ := aM (Kd.R_lower (Kd.R_new' ho0 (Kd.R_lt (xR HO241.out))) (below_size (xB HB.out))); have n5_ := aM (below_step (xB HB.out) hb); clear HO_6; clear HO238; clear HO241; clear HO244; clear HB; have HO_6 := n0_; have HO238 := n1_; have HO241 := n2_; have HO244 := n3_; have HO248 := n4_; have HB := n5_; clear n0_ n1_ n2_ n3_ n4_ n5_; (try clear hb); (try clear hb2); (try clear hk); (try clear hi); (try clear ho0)) | ((with_reducible refine gate_callee (f := 20) rfl ?_); refine goesL_ (some 60) rfl rfl Try.func20 (by kernel_rfl) rfl #[.slice Ao56 t242.length co56, .slice Ao53 t236.length co53] rfl (by (try simp only [List.map_toArray, List.map_cons, List.map_nil]); first | done | rfl | (simp only [List.length_drop, List.length_take]; rfl)) ?_; (with_reducible refine (sym_Encode.calls _ _ t242 _ _ t236 t249 t250 _ ?side1 ?side2 ?side3 ?side4 A22.out).mono ?_); (case side1 => exact xC ((Kd.R_reads' HO244.out).2.2)); (case side2 => exact (Kd.R_reads' HO244.out).2.1); (case side3 => exact xC ((Kd.V_reads' HO238.out).2.2)); (case side4 => exact (Kd.V_reads' HO238.out).2.1); rintro e w58 ⟨v251, rfl, ho0, hb⟩; refine ⟨_, rfl, ?_⟩; have n0_ := aM (Kd.R_below (xR HO_6.out) hb); have n1_ := aM (Kd.V_elder' (xV HO238.out) (Kd.R_base ho0) hb); have n2_ := aM (Kd.R_elder' (xR HO241.out) (Kd.R_base ho0) hb); have n3_ := aM (Kd.R_below (xR HO244.out) hb); have n4_ := aM (Kd.R_elder' (xR HO248.out) (Kd.R_base ho0) hb); have n5_ := aM (Kd.R_lower (Kd.R_new' (Kd.R_new' ho0 (Kd.R_lt (xR HO241.out))) (Kd.R_lt (xR HO248.out))) (below_size (xB HB.out))); have n6_ := aM (below_step (xB HB.out) hb); clear HO_6; clear HO238; clear HO241; clear HO244; clear HO248; clear HB; have HO_6 := n0_; have HO238 := n1_; have HO241 := n2_; have HO244 := n3_; have HO248 := n4_; have HO252 := n5_; have HB := n6_; clear n0_ n1_ n2_ n3_ n4_ n5_ n6_; (try clear hb); (try clear hb2); (try clear hk); (try clear hi); (try clear ho0); obtain ⟨Ao59, co59, eo59⟩ := Kd.R_slice HO248.out; subst eo59; obtain ⟨Ao60, co60, eo60⟩ := Kd.R_slice HO252.out; subst eo60; obtain ⟨Ao61, co61, eo61⟩ := Kd.R_slice HO241.out; subst eo61) | ((with_reducible refine gate_callee (f := 21) rfl ?_); refine goesL_ (some 75) rfl rfl Try.func21 (by kernel_rfl) rfl #[.slice A0 l0.length c0] rfl (by (try simp only [List.map_toArray, List.map_cons, List.map_nil]); first | done | rfl | (simp only [List.length_drop, List.length_take]; rfl)) ?_; (with_reducible refine (bytes_Clone.calls _ _ l0 t268 _ ?side1 ?side2 A48.out).mono ?_); (case side1 => exact xC (Kd.C_below HR0.out HB.out)); (case side2 => exact HC0.out); rintro e w62 ⟨v269, rfl, ho0, hb⟩; refine ⟨_, rfl, ?_⟩; have n0_ := aM (Kd.R_below (xR HO_6.out) hb); have n1_ := aM (Kd.V_elder' (xV HO238.out) (Kd.R_base ho0) hb); have n2_ := aM (Kd.R_elder' (xR HO241.out) (Kd.R_base ho0) hb); have n3_ := aM (Kd.R_below (xR HO244.out) hb); have n4_ := aM (Kd.R_elder' (xR HO248.out) (Kd.R_base ho0) hb); have n5_ := aM (Kd.R_elder' (xR HO252.out) (Kd.R_base ho0) hb); have n6_ := aM (Kd.R_lower (Kd.R_new' (Kd.R_new' (Kd.R_new' ho0 (Kd.R_lt (xR HO241.out))) (Kd.R_lt (xR HO248.out))) (Kd.R_lt (xR HO252.out))) (below_size (xB HB.out))); have n7_ := aM (below_step (xB HB.out) hb); clear HO_6; clear HO238; clear HO241; clear HO244; clear HO248; clear HO252; clear HB; have HO_6 := n0_; have HO238 := n1_; have HO241 := n2_; have HO244 := n3_; have HO248 := n4_; have HO252 := n5_; have HO270 := n6_; have HB := n7_; clear n0_ n1_ n2_ n3_ n4_ n5_ n6_ n7_; (try clear hb); (try clear hb2); (try clear hk); (try clear hi); (try clear ho0)) | ((with_reducible refine gate_builtin (b := .append) (xs := #[.tmp 75, .tmp 77]) rfl ?_); (try (refine gate_guard (by rfl) ?_; dsimp only)); at_builtin; refine Kd.R_append (Kd.int .u8) (w0 := w) w.heap.size rfl (.tmp 75) (.tmp 77) 22 5 (.int .u8 0) 1 rfl Try.underlying22 info5 rfl (by decide) (by omega) v269 t268 1 [.int .u8 1] (fun k_ => some k_ ≠ (.slice Ao61 t239.length co61 : Value).ownBlock ∧ some k_ ≠ (.slice Ao59 t245.length co59 : Value).ownBlock ∧ some k_ ≠ (.slice Ao60 t249.length co60 : Value).ownBlock) (fun _ => False) rfl rfl ?aP (fun _ hk => hk.elim) ?aF ?aO ?aB ?aS ?aL ?_; (case aP => exact rfl); (case aB => exact (xB HB.out)); (case aF => exact (fun k_ hk => ⟨Kd.fresh' (Kd.R_lt (xR HO241.out)) k_ hk, Kd.fresh' (Kd.R_lt (xR HO248.out)) k_ hk, Kd.fresh' (Kd.R_lt (xR HO252.out)) k_ hk⟩)); (case aO => exact (by (with_reducible repeat (first | apply Kd.R_alloc | apply Kd.R_drewN | apply Kd.R_drew)); exact Kd.R_mono HO270.out (fun _ hk => ⟨hk.1.1.2, ⟨hk.1.2, hk.2⟩⟩))); (case aS => exact (below_size (xB HB.out))); (case aL => have := LMc49.out; omega); intro v272 w63 ho hb hg hat; rw [← Ny271.out] at ho; have n0_ := aM (Kd.R_over' (xR HO_6.out) (Kd.R_typed (xR HO270.out)) (by decide) hg); have n1_ := aM (Kd.V_afterv (ok := (fun k_ => some k_ ≠ (v232 : Value).ownBlock ∧ some k_ ≠ (.slice Ao61 t239.length co61 : Value).ownBlock ∧ some k_ ≠ (.slice Ao56 t242.length co56 : Value).ownBlock ∧ some k_ ≠ (.slice Ao59 t245.length co59 : Value).ownBlock ∧ some k_ ≠ (.slice Ao60 t249.length co60 : Value).ownBlock)) (by (with_reducible repeat (first | apply Kd.V_alloc | apply Kd.V_drewN | apply Kd.V_drew)); exact Kd.V_mono HO238.out (fun _ hk => ⟨⟨hk.1.1.1.1.1, ⟨hk.1.1.1.1.2, ⟨hk.1.1.1.2, ⟨hk.1.1.2, hk.1.2⟩⟩⟩⟩, hk.2⟩)) hg hat); have n2_ := aM (Kd.R_after (ok := (fun k_ => some k_ ≠ (.slice Ao59 t245.length co59 : Value).ownBlock ∧ some k_ ≠ (.slice Ao60 t249.length co60 : Value).ownBlock)) (by (with_reducible repeat (first | apply Kd.R_alloc | apply Kd.R_drewN | apply Kd.R_drew)); exact Kd.R_mono HO241.out (fun _ hk => ⟨⟨hk.1.1.2, hk.1.2⟩, hk.2⟩)) hg hat); have n3_ := aM (Kd.R_over' (xR HO244.out) (Kd.R_typed (xR HO270.out)) (by decide) hg); have n4_ := aM (Kd.R_after (ok := (fun k_ => some k_ ≠ (.slice Ao61 t239.length co61 : Value).ownBlock ∧ some k_ ≠ (.slice Ao60 t249.length co60 : Value).ownBlock)) (by (with_reducible repeat (first | apply Kd.R_alloc | apply Kd.R_drewN | apply Kd.R_drew)); exact Kd.R_mono HO248.out (fun _ hk => ⟨⟨hk.1.1.2, hk.1.2⟩, hk.2⟩)) hg hat); have n5_ := aM (Kd.R_after (ok := (fun k_ => some k_ ≠ (.slice Ao61 t239.length co61 : Value).ownBlock ∧ some k_ ≠ (.slice Ao59 t245.length co59 : Value).ownBlock)) (by (with_reducible repeat (first | apply Kd.R_alloc | apply Kd.R_drewN | apply Kd.R_drew)); exact Kd.R_mono HO252.out (fun _ hk => ⟨⟨hk.1.1.2, hk.1.2⟩, hk.2⟩)) hg hat); have n6_ := aM (hb); have n7_ := aM (ho); clear HO_6; clear HO238; clear HO241; clear HO244; clear HO248; clear HO252; clear HB; clear HO270; have HO_6 := n0_; have HO238 := n1_; have HO241 := n2_; have HO244 := n3_; have HO248 := n4_; have HO252 := n5_; have HB := n6_; have HO273 := n7_; clear n0_ n1_ n2_ n3_ n4_ n5_ n6_ n7_; clear ho hb hg hat; obtain ⟨Ao64, co64, eo64⟩ := Kd.R_slice HO273.out; subst eo64; obtain ⟨Ao65, co65, eo65⟩ := Kd.R_slice HO_6.out; subst eo65) | ((with_reducible refine gate_callee (f := 23) rfl ?_); refine goesL_ (some 81) rfl rfl Try.func23 (by kernel_rfl) rfl #[.slice Ao64 y271.length co64, .slice Ao65 x6_2.length co65] rfl (by (try simp only [List.map_toArray, List.map_cons, List.map_nil]); first | done | rfl | (simp only [List.length_drop, List.length_take]; rfl)) ?_; (with_reducible refine (pfor_PutList.calls k2 _ _ y271 _ _ x6_2 t274 _ ?side1 ?side2 ?side3 ?side4 A50.out).mono ?_); (case side1 => exact xC ((Kd.R_reads' HO273.out).2.2)); (case side2 => exact (Kd.R_reads' HO273.out).2.1); (case side3 => exact xC ((Kd.R_reads' HO_6.out).2.2)); (case side4 => exact (Kd.R_reads' HO_6.out).2.1); rintro e w66 ⟨v275, rfl, ho0, hb⟩; refine ⟨_, rfl, ?_⟩; have n0_ := aM (Kd.R_below (xR HO_6.out) hb); have n1_ := aM (Kd.V_elder' (xV HO238.out) (Kd.R_base ho0) hb); have n2_ := aM (Kd.R_elder' (xR HO241.out) (Kd.R_base ho0) hb); have n3_ := aM (Kd.R_below (xR HO244.out) hb); have n4_ := aM (Kd.R_elder' (xR HO248.out) (Kd.R_base ho0) hb); have n5_ := aM (Kd.R_elder' (xR HO252.out) (Kd.R_base ho0) hb); have n6_ := aM (Kd.R_elder' (xR HO273.out) (Kd.R_base ho0) hb); have n7_ := aM (Kd.R_lower (Kd.R_new' (Kd.R_new' (Kd.R_new' (Kd.R_new' ho0 (Kd.R_lt (xR HO241.out))) (Kd.R_lt (xR HO248.out))) (Kd.R_lt (xR HO252.out))) (Kd.R_lt (xR HO273.out))) (below_size (xB HB.out))); have n8_ := aM (below_step (xB HB.out) hb); clear HO_6; clear HO238; clear HO241; clear HO244; clear HO248; clear HO252; clear HO273; clear HB; have HO_6 := n0_; have HO238 := n1_; have HO241 := n2_; have HO244 := n3_; have HO248 := n4_; have HO252 := n5_; have HO273 := n6_; have HO276 := n7_; have HB := n8_; clear n0_ n1_ n2_ n3_ n4_ n5_ n6_ n7_ n8_; (try clear hb); (try clear hb2); (try clear hk); (try clear hi); (try clear ho0); obtain ⟨Ao67, co67, eo67⟩ := Kd.R_slice HO276.out; subst eo67) | ((with_reducible refine gate_callee (f := 22) rfl ?_); refine goesL_ (some 83) rfl rfl Try.func22 (by kernel_rfl) rfl #[.slice Ao67 t274.length co67, .slice Ao61 t239.length co61] rfl (by (try simp only [List.map_toArray, List.map_cons, List.map_nil]); first | done | rfl | (simp only [List.length_drop, List.length_take]; rfl)) ?_; (with_reducible refine (num_PutRow.calls k2 _ _ t274 _ _ t239 t277 _ ?side1 ?side2 ?side3 ?side4 A51.out).mono ?_); (case side1 => exact xC ((Kd.R_reads' HO276.out).2.2)); (case side2 => exact (Kd.R_reads' HO276.out).2.1); (case side3 => exact xC ((Kd.R_reads' HO241.out).2.2)); (case side4 => exact (Kd.R_reads' HO241.out).2.1); rintro e w68 ⟨v278, rfl, ho0, hb⟩; refine ⟨_, rfl, ?_⟩; have n0_ := aM (Kd.R_below (xR HO_6.out) hb); have n1_ := aM (Kd.V_elder' (xV HO238.out) (Kd.R_base ho0) hb); have n2_ := aM (Kd.R_elder' (xR HO241.out) (Kd.R_base ho0) hb); have n3_ := aM (Kd.R_below (xR HO244.out) hb); have n4_ := aM (Kd.R_elder' (xR HO248.out) (Kd.R_base ho0) hb); have n5_ := aM (Kd.R_elder' (xR HO252.out) (Kd.R_base ho0) hb); have n6_ := aM (Kd.R_elder' (xR HO273.out) (Kd.R_base ho0) hb); have n7_ := aM (Kd.R_elder' (xR HO276.out) (Kd.R_base ho0) hb); have n8_ := aM (Kd.R_lower (Kd.R_new' (Kd.R_new' (Kd.R_new' (Kd.R_new' (Kd.R_new' ho0 (Kd.R_lt (xR HO241.out))) (Kd.R_lt (xR HO248.out))) (Kd.R_lt (xR HO252.out))) (Kd.R_lt (xR HO273.out))) (Kd.R_lt (xR HO276.out))) (below_size (xB HB.out))); have n9_ := aM (below_step (xB HB.out) hb); clear HO_6; clear HO238; clear HO241; clear HO244; clear HO248; clear HO252; clear HO273; clear HO276; clear HB; have HO_6 := n0_; have HO238 := n1_; have HO241 := n2_; have HO244 := n3_; have HO248 := n4_; have HO252 := n5_; have HO273 := n6_; have HO276 := n7_; have HO279 := n8_; have HB := n9_; clear n0_ n1_ n2_ n3_ n4_ n5_ n6_ n7_ n8_ n9_; (try clear hb); (try clear hb2); (try clear hk); (try clear hi); (try clear ho0)))
           go_ret2
           exact ⟨_, by first | rfl | (simp [errW_none, errW_some] <;> rfl) | (simp [*, errW_none, errW_some] <;> rfl), by (with_reducible repeat (first | apply Kd.R_alloc | apply Kd.R_drewN | apply Kd.R_drew)); exact Kd.R_mono HO279.out (fun _ hk => trivial), xB HB.out⟩
          ·
           rw [if_neg c49] at H
           exact absurd H (by simp)
     ·
      rw [if_neg c7] at H
      exact absurd H (by simp)
    ·
     rw [if_neg c6] at H
     exact absurd H (by simp)
def r01_Same.f (l0 : List Int) (l1 : List Int) : Option (Bool) := some ((strOfNums l0).toList == (strOfNums l1).toList)
set_option maxHeartbeats 8000000 in
set_option maxRecDepth 100000 in
theorem r01_Same.calls (A0 : Option Addr) (c0 : Nat) (l0 : List Int) (A1 : Option Addr) (c1 : Nat) (l1 : List Int) (r : Bool) (w : World) (hr0 : Kd.C (Kd.int .u8) w A0 l0.length l0) (hc0 : l0.length ≤ c0) (hr1 : Kd.C (Kd.int .u8) w A1 l1.length l1) (hc1 : l1.length ≤ c1) (h : r01_Same.f l0 l1 = some r) :
  Calls Try.prog 11 #[.slice A0 l0.length c0, .slice A1 l1.length c1] w fun e w' => e = .returned (.bool r) ∧ Drawn0 w w' := by
 have HR0 := aM hr0
 have HC0 := aM hc0
 clear hr0 hc0
 have HR1 := aM hr1
 have HC1 := aM hc1
 clear hr1 hc1
 have H : (some ((strOfNums l0).toList == (strOfNums l1).toList)) = some r := h
 clear h
 obtain rfl := Option.some.inj H
 have hcv3 := Kd.C_string (P := Try.prog) (A := A0) (c := c0) Try.underlying22 Try.underlying5 Try.underlying9 HR0.out
 have hcv4 := fun nq_ : Nat => Kd.C_string (P := Try.prog) (A := A0) (c := c0) Try.underlying22 Try.underlying5 Try.underlying9 (Kd.C_drewN (show Kd.C (Kd.int .u8) _ A0 _ _ from HR0.out) nq_)
 have hcv5 := Kd.C_string (P := Try.prog) (A := A1) (c := c1) Try.underlying22 Try.underlying5 Try.underlying9 HR1.out
 have hcv6 := fun nq_ : Nat => Kd.C_string (P := Try.prog) (A := A1) (c := c1) Try.underlying22 Try.underlying5 Try.underlying9 (Kd.C_drewN (show Kd.C (Kd.int .u8) _ A1 _ _ from HR1.out) nq_)
 go_enter Try.func11, Try.ntmps11
 go_wp2
 go_ret
 exact ⟨by first | rfl | (simp; done) | (simp [*]; done), by repeat (first | exact Drawn0.refl _ | apply Drawn0.step)⟩
def w11_alive.f (k : Nat)  : Option (Bool) := (texts_Put.f k ([] : List Int) (([(([97, 98, 99] : List Int))] : List (List Int)))).bind fun bt286 => (if bt286.2 = 0 then ((r01_Same.f bt286.1 (([1, 1, 1, 3, 0, 0, 4, 48, 97, 98, 99] : List Int))).bind fun t293 => (some t293)) else (some false))
theorem w11_alive.C_abc (w : World) : Kd.C (Kd.slice 5 (Kd.int .u8)) ((w.alloc (.cells #[.int .u8 97, .int .u8 98, .int .u8 99] 5 (3, 4))).alloc (.cells #[.slice (some ⟨w.heap.size, 0, none⟩) 3 3] 22)) (some ⟨w.heap.size + 1, 0, none⟩) 1 [[97, 98, 99]] := by
 obtain ⟨W, hW⟩ : ∃ W, (w.alloc (.cells #[.int .u8 97, .int .u8 98, .int .u8 99] 5 (3, 4))).alloc (.cells #[.slice (some ⟨w.heap.size, 0, none⟩) 3 3] 22) = W := ⟨_, rfl⟩
 have hb2 : W.heap[w.heap.size]? = some (.cells #[.int .u8 97, .int .u8 98, .int .u8 99] 5 (3, 4)) := by
  rw [← hW]
  exact blk_alloc (heap_alloc_new w _) _
 have hb3 : W.heap[w.heap.size + 1]? = some (.cells #[.slice (some ⟨w.heap.size, 0, none⟩) 3 3] 22 (0, 0)) := by
  rw [← hW]
  have h := heap_alloc_new (w.alloc (.cells #[.int .u8 97, .int .u8 98, .int .u8 99] 5 (3, 4))) (.cells #[.slice (some ⟨w.heap.size, 0, none⟩) 3 3] 22)
  rw [World.size_alloc] at h
  exact h
 rw [hW]
 refine ⟨rfl, by decide, fun _ => ⟨_, rfl, fun j p hj => ?_⟩⟩
 rcases j with _ | j
 ·
  simp at hj
  subst hj
  refine ⟨[.slice (some ⟨w.heap.size, 0, none⟩) 3 3], rfl, ⟨_, _, rfl, by decide, rfl, by decide, fun _ => ⟨_, rfl, fun j p hj => ?_⟩⟩, fun i u hu => ?_⟩
  ·
   rcases j with _ | _ | _ | j
   ·
    simp at hj
    subst hj
    refine ⟨[.int .u8 97], rfl, rfl, fun i u hu => ?_⟩
    rcases i with _ | i
    ·
     simp at hu
     subst hu
     have e := Go.Joins.cell_of_block hb2 0
     exact e
    · simp at hu
   ·
    simp at hj
    subst hj
    refine ⟨[.int .u8 98], rfl, rfl, fun i u hu => ?_⟩
    rcases i with _ | i
    ·
     simp at hu
     subst hu
     have e := Go.Joins.cell_of_block hb2 1
     exact e
    · simp at hu
   ·
    simp at hj
    subst hj
    refine ⟨[.int .u8 99], rfl, rfl, fun i u hu => ?_⟩
    rcases i with _ | i
    ·
     simp at hu
     subst hu
     have e := Go.Joins.cell_of_block hb2 2
     exact e
    · simp at hu
   · simp at hj
  ·
   rcases i with _ | i
   ·
    simp at hu
    subst hu
    have e := blk_cell hb3 0
    exact e
   · simp at hu
 · simp at hj
set_option maxHeartbeats 8000000 in
set_option maxRecDepth 100000 in
theorem w11_alive.calls (k : Nat)  (r : Bool) (w : World) (h : w11_alive.f k  = some r) :
  Calls Try.prog 6 #[] w fun e w' => e = .returned (.bool r) ∧ Below w.heap.size w w' := by
 have HB := aM (Below.refl w.heap.size w)
 have H : ((texts_Put.f k ([] : List Int) (([(([97, 98, 99] : List Int))] : List (List Int)))).bind fun bt286 => (if bt286.2 = 0 then ((r01_Same.f bt286.1 (([1, 1, 1, 3, 0, 0, 4, 48, 97, 98, 99] : List Int))).bind fun t293 => (some t293)) else (some false))) = some r := h
 clear h
 replace H := Option.bind_eq_some_iff.mp H
 obtain ⟨⟨t286, t287⟩, A10, H⟩ := H
 replace H : (if t287 = 0 then ((r01_Same.f t286 (([1, 1, 1, 3, 0, 0, 4, 48, 97, 98, 99] : List Int))).bind fun t293 => (some t293)) else (some false)) = some r := H
 have A1 := aM A10
 clear A10
 by_cases c2 : t287 = 0
 ·
  rw [if_pos c2] at H
  have c2b0 : (t287 == 0) = true := beq_iff_eq.mpr c2
  have c2b1 : (t287 != 0) = false := bne_eq_false_iff_eq.mpr c2
  clear c2
  obtain ⟨y290, hy290⟩ : ∃ y_ : List Int, y_ = (([1, 1, 1, 3, 0, 0, 4, 48, 97, 98, 99] : List Int)) := ⟨_, rfl⟩
  replace H : ((r01_Same.f t286 y290).bind fun t293 => (some t293)) = some r := by first | (rw [hy290]; with_reducible exact H) | (have H2_ := (Option.bind_some _ _).symm.trans H; rw [hy290]; with_reducible exact H2_) | (have H2_ := (Option.bind_some _ _).symm.trans H; with_reducible exact H2_) | with_reducible exact H | (rw [hy290]; exact H) | exact H
  have Ny290 := aM hy290
  clear hy290
  replace H := Option.bind_eq_some_iff.mp H
  obtain ⟨t293, A30, H⟩ := H
  replace H : (some t293) = some r := H
  have A3 := aM A30
  clear A30
  obtain rfl := Option.some.inj H
  have hcv := Lib.run_convert_bytes_const (P := Try.prog) w 22 5 #[.int .u8 97, .int .u8 98, .int .u8 99] 3 3 Try.underlying22 Try.underlying5
  have hC := w11_alive.C_abc w
  go_enter Try.func6, Try.ntmps6
  go_wp2_with (first | (go_at_call 10; (refine (texts_Put.calls k _ _ ([] : List Int) _ _ [[97, 98, 99]] t286 t287 _ (Kd.C_nil _ _) (Nat.le_refl _) hC (by decide) A1.out).mono ?_); rintro e w10 ⟨v288, rfl, ho0, hb⟩; have n1_ := aM (Kd.R_lower ho0 (below_size (xB HB.out))); have n2_ := aM (below_step (xB HB.out) hb); clear HB hC hcv; have HO289 := n1_; have HB := n2_; clear n1_ n2_; (try clear hb); (try clear ho0)) | ((with_reducible refine gate_dst (N := 14) rfl ?_); (try (refine gate_guard (by rfl) ?_; dsimp only)); refine Kd.R_lit (Kd.int .u8) _ 5 ?hg (N := 14) ?hd (xs := ([1, 1, 1, 3, 0, 0, 4, 48, 97, 98, 99] : List Int)) (inner := [.int .u8 1, .int .u8 1, .int .u8 1, .int .u8 3, .int .u8 0, .int .u8 0, .int .u8 4, .int .u8 48, .int .u8 97, .int .u8 98, .int .u8 99]) (ok := fun _ => True) (okp := fun _ => True) ?hr ?hp (fun _ hk => hk) trivial (Below.refl _ _) (Nat.le_refl _) (by simp) ?_; (case hd => rfl); (case hg => rfl); (case hr => first | (go_simp; done) | (go_simp; rfl)); (case hp => exact (Reps.one (show Kd.M (Kd.int .u8) _ _ _ 1 [.int .u8 1] from rfl) (Reps.one (show Kd.M (Kd.int .u8) _ _ _ 1 [.int .u8 1] from rfl) (Reps.one (show Kd.M (Kd.int .u8) _ _ _ 1 [.int .u8 1] from rfl) (Reps.one (show Kd.M (Kd.int .u8) _ _ _ 3 [.int .u8 3] from rfl) (Reps.one (show Kd.M (Kd.int .u8) _ _ _ 0 [.int .u8 0] from rfl) (Reps.one (show Kd.M (Kd.int .u8) _ _ _ 0 [.int .u8 0] from rfl) (Reps.one (show Kd.M (Kd.int .u8) _ _ _ 4 [.int .u8 4] from rfl) (Reps.one (show Kd.M (Kd.int .u8) _ _ _ 48 [.int .u8 48] from rfl) (Reps.one (show Kd.M (Kd.int .u8) _ _ _ 97 [.int .u8 97] from rfl) (Reps.one (show Kd.M (Kd.int .u8) _ _ _ 98 [.int .u8 98] from rfl) (Reps.one (show Kd.M (Kd.int .u8) _ _ _ 99 [.int .u8 99] from rfl) (Reps.none _ _))))))))))))); intro v291 w11 ho12 hb hg_ hnew_; clear hg_ hnew_; (first | rw [← Ny290.out] at ho12 | (simp only [Int.reduceToNat] at ho12; rw [← Ny290.out] at ho12)); have n1_ := aM (Kd.R_elder' (xR HO289.out) (Kd.R_base ho12) hb); have n2_ := aM (Kd.R_lower (Kd.R_new' ho12 (Kd.R_lt (xR HO289.out))) (below_size (xB HB.out))); have n3_ := aM (below_step (xB HB.out) hb); clear HO289; clear HB; have HO289 := n1_; have HO292 := n2_; have HB := n3_; clear n1_ n2_ n3_; clear hb ho12; obtain ⟨Ao13, co13, eo13⟩ := Kd.R_slice HO289.out; subst eo13; obtain ⟨Ao14, co14, eo14⟩ := Kd.R_slice HO292.out; subst eo14) | (go_at_call 11; (with_reducible refine (r01_Same.calls _ _ t286 _ _ y290 t293 _ ?side1 ?side2 ?side3 ?side4 A3.out).mono ?_); (case side1 => exact xC ((Kd.R_reads' HO289.out).2.2)); (case side2 => exact (Kd.R_reads' HO289.out).2.1); (case side3 => exact xC ((Kd.R_reads' HO292.out).2.2)); (case side4 => exact (Kd.R_reads' HO292.out).2.1); rintro e w' ⟨rfl, ⟨nd, rfl⟩⟩))
  go_ret
  exact ⟨by first | rfl | (simp [errW_none, errW_some] <;> rfl) | (simp [*, errW_none, errW_some] <;> rfl), xB HB.out⟩
 ·
  rw [if_neg c2] at H
  have c2b0 : (t287 == 0) = false := beq_eq_false_iff_ne.mpr c2
  have c2b1 : (t287 != 0) = true := bne_iff_ne.mpr c2
  obtain rfl := Option.some.inj H
  have hcv := Lib.run_convert_bytes_const (P := Try.prog) w 22 5 #[.int .u8 97, .int .u8 98, .int .u8 99] 3 3 Try.underlying22 Try.underlying5
  have hC := w11_alive.C_abc w
  go_enter Try.func6, Try.ntmps6
  go_wp2_with (first | (go_at_call 10; (refine (texts_Put.calls k _ _ ([] : List Int) _ _ [[97, 98, 99]] t286 t287 _ (Kd.C_nil _ _) (Nat.le_refl _) hC (by decide) A1.out).mono ?_); rintro e w10 ⟨v288, rfl, ho0, hb⟩; have n1_ := aM (Kd.R_lower ho0 (below_size (xB HB.out))); have n2_ := aM (below_step (xB HB.out) hb); clear HB hC hcv; have HO289 := n1_; have HB := n2_; clear n1_ n2_; (try clear hb); (try clear ho0)))
  go_ret
  exact ⟨by first | rfl | (simp [errW_none, errW_some] <;> rfl) | (simp [*, errW_none, errW_some] <;> rfl), xB HB.out⟩
mutual
def r11_Right.j0 : Nat → List (List Int) → Bool → Option (Int)
 | 0, _, _ => none
 | k + 1, x0, x11 => if x11 = true then (some 1) else (r11_Right.l0 k x0 0)
def r11_Right.l0 : Nat → List (List Int) → Int → Option (Int)
 | 0, _, _ => none
 | k + 1, x0, x3 => if x3 < (x0.length : Int) then (if 0 ≤ x3 then (if ((rd_L1 x0 x3).length : Int) > 65536 then (some 5) else (r11_Right.l0 k x0 (wrap64 (x3 + 1)))) else (none)) else (some 0)
end
def r11_Right.f (k : Nat) (l0 : List (List Int)) : Option (Int) := if (l0.length : Int) < 1 then (r11_Right.j0 k l0 true) else (r11_Right.j0 k l0 (decide ((l0.length : Int) > 16)))
set_option maxHeartbeats 8000000 in
set_option maxRecDepth 100000 in
theorem r11_Right.calls (k : Nat) (A0 : Option Addr) (c0 : Nat) (l0 : List (List Int)) (r : Int) (w : World) (hr0 : Kd.C (Kd.slice 5 (Kd.int .u8)) w A0 l0.length l0) (hc0 : l0.length ≤ c0) (h : r11_Right.f k l0 = some r) :
  Calls Try.prog 7 #[.slice A0 l0.length c0] w fun e w' => e = .returned (.int .i64 r) ∧ Drawn0 w w' := by
 have HR0 := aM hr0
 have HC0 := aM hc0
 clear hr0 hc0
 have H : (if (l0.length : Int) < 1 then (r11_Right.j0 k l0 true) else (r11_Right.j0 k l0 (decide ((l0.length : Int) > 16)))) = some r := h
 clear h
 have HC2 := aM H
 clear H
 go_enter Try.func7, Try.ntmps7
 go_upto_region 1 with (fail)
 go_cut [11] (fun v11 wc => ∃ (kq : Nat) (x11_1 : Bool), v11 = .bool x11_1 ∧ Aside0 (r11_Right.j0 kq l0 x11_1 = some r) ∧ Aside0 (kq ≤ k) ∧ Drawn0 w wc)
 case first =>
  have H := HC2.out
  clear HC2
  by_cases c3 : (l0.length : Int) < 1
  ·
   rw [if_pos c3] at H
   have c3b0 : decide ((l0.length : Int) < 1) = true := decide_eq_true c3
   have c3b1 : decide (l0.length < 1) = true := decide_eq_true (by omega)
   clear c3
   (first | rw [c3b0] | (simp only [i64_w, i32_w]; rw [c3b0]) | skip)
   have H' := aM H
   clear H
   go_wp2
   go_meet
   case rel => exact ⟨_, (true), (by first | rfl | (simp; done) | (simp [*]; done)), H', ⟨by first | omega | exact Nat.le_refl _⟩, by repeat (first | exact Drawn0.refl _ | apply Drawn0.step)⟩
  ·
   rw [if_neg c3] at H
   have c3b0 : decide ((l0.length : Int) < 1) = false := decide_eq_false c3
   have c3b1 : decide (l0.length < 1) = false := decide_eq_false (by omega)
   clear c3
   (first | rw [c3b0] | (simp only [i64_w, i32_w]; rw [c3b0]) | skip)
   have H' := aM H
   clear H
   go_wp2
   go_meet
   case rel => exact ⟨_, (decide ((l0.length : Int) > 16)), (by first | rfl | (simp; done) | (simp [*]; done)), H', ⟨by first | omega | exact Nat.le_refl _⟩, by repeat (first | exact Drawn0.refl _ | apply Drawn0.step)⟩
 case rest =>
  clear HC2
  try clear p2
  try clear c3
  try clear c3b0
  try clear c3b1
  obtain ⟨kq, x11_1, rfl, HA, HJ1, ⟨mc1, rfl⟩⟩ := hcut
  cases kq with
  | zero => exact absurd HA.out (by simp [r11_Right.j0])
  | succ kj1 =>
   have H := HA.out
   clear HA
   simp only [r11_Right.j0] at H
   by_cases c4 : x11_1 = true
   ·
    subst c4
    have H1 : (some 1) = some r := by rw [if_pos rfl] at H; exact H
    clear H
    have H := H1
    clear H1
    obtain rfl := Option.some.inj H
    go_wp2
    go_ret
    exact ⟨by first | rfl | (simp; done) | (simp [*]; done), by repeat (first | exact Drawn0.refl _ | apply Drawn0.step)⟩
   ·
    replace c4 := Bool.eq_false_iff.mpr c4
    subst c4
    have H1 : (r11_Right.l0 kj1 l0 0) = some r := by rw [if_neg (show ¬ (false = true) by decide)] at H; exact H
    clear H
    have H := H1
    clear H1
    have H' := aM H
    clear H
    go_wp2
    go_loopg [3] kj1 (fun kq v3 w' => ∃ (x3_2 : Int), v3 = .int .i64 x3_2 ∧ Aside0 (r11_Right.l0 kq l0 x3_2 = some r) ∧ Aside0 (kq ≤ kj1) ∧ Drawn0 w w')
    case atStart => exact ⟨(0), (by first | rfl | (simp; done) | (simp [*]; done)), H', ⟨Nat.le_refl _⟩, by repeat (first | exact Drawn0.refl _ | apply Drawn0.step)⟩
    case round =>
     clear H'
     try clear c1
     try clear p2
     try clear c3
     try clear c3b0
     try clear c3b1
     try clear c4
     try clear p2
     obtain ⟨x3_2, rfl, HA, HK2, ⟨m2, rfl⟩⟩ := hrel
     cases gk with
     | zero => exact absurd HA.out (by simp [r11_Right.l0])
     | succ k2 =>
      have H := HA.out
      clear HA
      simp only [r11_Right.l0] at H
      by_cases c5 : x3_2 < (l0.length : Int)
      ·
       rw [if_pos c5] at H
       have c5b0 : decide (x3_2 < (l0.length : Int)) = true := decide_eq_true c5
       clear c5
       by_cases c6 : 0 ≤ x3_2
       ·
        rw [if_pos c6] at H
        have c6b0 : decide (0 ≤ x3_2) = true := decide_eq_true c6
        clear c6
        by_cases c7 : ((rd_L1 l0 x3_2).length : Int) > 65536
        ·
         rw [if_pos c7] at H
         have c7b0 : decide (65536 < ((rd_L1 l0 x3_2).length : Int)) = true := decide_eq_true c7
         have c7b1 : decide (65536 < (rd_L1 l0 x3_2).length) = true := decide_eq_true (by omega)
         clear c7
         obtain rfl := Option.some.inj H
         have p280 : 0 ≤ (x3_2 : Int) := of_decide_eq_true (by first | (with_reducible assumption) | assumption)
         have q280 : x3_2 < (l0.length : Int) := of_decide_eq_true (by first | (with_reducible assumption) | assumption)
         obtain ⟨ad280, A280_0, c280_0, e280, hx280_0, hl280_0, hi280_0⟩ := at_L1 HR0.out x3_2 p280 q280
         cases e280
         have HR280_0 := aM hi280_0
         have HC280_0 := aM hl280_0
         clear hi280_0 hl280_0
         replace p280 := eq_true p280
         replace q280 := eq_true q280
         go_wp2
         go_ret
         exact ⟨by first | rfl | (simp; done) | (simp [*]; done), by repeat (first | exact Drawn0.refl _ | apply Drawn0.step)⟩
        ·
         rw [if_neg c7] at H
         have c7b0 : decide (65536 < ((rd_L1 l0 x3_2).length : Int)) = false := decide_eq_false c7
         have c7b1 : decide (65536 < (rd_L1 l0 x3_2).length) = false := decide_eq_false (by omega)
         clear c7
         have H' := aM H
         clear H
         have p280 : 0 ≤ (x3_2 : Int) := of_decide_eq_true (by first | (with_reducible assumption) | assumption)
         have q280 : x3_2 < (l0.length : Int) := of_decide_eq_true (by first | (with_reducible assumption) | assumption)
         obtain ⟨ad280, A280_0, c280_0, e280, hx280_0, hl280_0, hi280_0⟩ := at_L1 HR0.out x3_2 p280 q280
         cases e280
         have HR280_0 := aM hi280_0
         have HC280_0 := aM hl280_0
         clear hi280_0 hl280_0
         replace p280 := eq_true p280
         replace q280 := eq_true q280
         go_wp2
         go_roundg k2
         case measure => have := HJ1.out; have := HK2.out; omega
         case rel => exact ⟨(wrap64 (x3_2 + 1)), (by first | rfl | (simp; done) | (simp [*]; done)), H', ⟨by have := HJ1.out; have := HK2.out; omega⟩, by repeat (first | exact Drawn0.refl _ | apply Drawn0.step)⟩
       ·
        rw [if_neg c6] at H
        exact absurd H (by simp)
      ·
       rw [if_neg c5] at H
       have c5b0 : decide (x3_2 < (l0.length : Int)) = false := decide_eq_false c5
       clear c5
       obtain rfl := Option.some.inj H
       go_wp2
       go_ret
       exact ⟨by first | rfl | (simp; done) | (simp [*]; done), by repeat (first | exact Drawn0.refl _ | apply Drawn0.step)⟩
def w11_great.l0 : Nat → List (List Int) → Int → Int → Int → Option (Bool)
 | 0, _, _, _, _ => none
 | k + 1, x0, x1, x5, x6 => if x6 < (x0.length : Int) then (if x6 < 20 then (if 0 ≤ x6 then (w11_great.l0 k x0 x1 (wrap64 (x5 + (mn ((rd_L1 x0 x6).length : Int) 1048576))) (wrap64 (x6 + 1))) else (none)) else (some (decide (x5 > x1)))) else (some (decide (x5 > x1)))
def w11_great.f (k : Nat) (l0 : List (List Int)) (a1 : Int) : Option (Bool) := w11_great.l0 k l0 a1 0 0
set_option maxHeartbeats 8000000 in
set_option maxRecDepth 100000 in
theorem w11_great.calls (k : Nat) (A0 : Option Addr) (c0 : Nat) (l0 : List (List Int)) (a1 : Int) (r : Bool) (w : World) (hr0 : Kd.C (Kd.slice 5 (Kd.int .u8)) w A0 l0.length l0) (hc0 : l0.length ≤ c0) (h : w11_great.f k l0 a1 = some r) :
  Calls Try.prog 8 #[.slice A0 l0.length c0, .int .i64 a1] w fun e w' => e = .returned (.bool r) ∧ Below w.heap.size w w' := by
 have HR0 := aM hr0
 have HC0 := aM hc0
 clear hr0 hc0
 have HB := aM (Below.refl w.heap.size w)
 have H : (w11_great.l0 k l0 a1 0 0) = some r := h
 clear h
 have H' := aM H
 clear H
 go_enter Try.func8, Try.ntmps8
 go_wp2
 go_loopg [5, 6] k (fun kq v5 v6 w' => ∃ (x5_1 : Int) (x6_1 : Int), v5 = .int .i64 x5_1 ∧ v6 = .int .i64 x6_1 ∧ Aside0 (w11_great.l0 kq l0 a1 x5_1 x6_1 = some r) ∧ Aside0 (kq ≤ k) ∧ Aside0 (Below w.heap.size w w'))
 case atStart => exact ⟨(0), (0), (by first | rfl | (simp; done) | (simp [*]; done)), (by first | rfl | (simp; done) | (simp [*]; done)), H', ⟨Nat.le_refl _⟩, ⟨xB HB.out⟩⟩
 case round =>
  clear H'
  try clear p2
  obtain ⟨x5_1, x6_1, rfl, rfl, HA, HK1, HB⟩ := hrel
  cases gk with
  | zero => exact absurd HA.out (by simp [w11_great.l0])
  | succ k1 =>
   have H := HA.out
   clear HA
   simp only [w11_great.l0] at H
   by_cases c3 : x6_1 < (l0.length : Int)
   ·
    rw [if_pos c3] at H
    have c3b0 : decide (x6_1 < (l0.length : Int)) = true := decide_eq_true c3
    clear c3
    by_cases c4 : x6_1 < 20
    ·
     rw [if_pos c4] at H
     have c4b0 : decide (x6_1 < 20) = true := decide_eq_true c4
     clear c4
     by_cases c5 : 0 ≤ x6_1
     ·
      rw [if_pos c5] at H
      have c5b0 : decide (0 ≤ x6_1) = true := decide_eq_true c5
      clear c5
      obtain ⟨ji6, hji6⟩ : ∃ j_ : Int, (mn ((rd_L1 l0 x6_1).length : Int) 1048576) = j_ := ⟨_, rfl⟩
      replace H : (w11_great.l0 k1 l0 a1 (wrap64 (x5_1 + (ji6))) (wrap64 (x6_1 + 1))) = some r := by first | (rw [hji6] at H; exact H) | (simp only [hji6] at H ⊢; exact H)
      have hji6_ : (if 1048576 < ((rd_L1 l0 x6_1).length : Int) then 1048576 else ((rd_L1 l0 x6_1).length : Int)) = ji6 := hji6
      have H' := aM H
      clear H
      have p281 : 0 ≤ (x6_1 : Int) := of_decide_eq_true (by first | (with_reducible assumption) | assumption)
      have q281 : x6_1 < (l0.length : Int) := of_decide_eq_true (by first | (with_reducible assumption) | assumption)
      obtain ⟨ad281, A281_0, c281_0, e281, hx281_0, hl281_0, hi281_0⟩ := at_L1 HR0.out x6_1 p281 q281
      cases e281
      replace hx281_0 := (HB.out.cell (World.block_lt_of_cell? w _ hx281_0)).trans hx281_0
      have HR281_0 := aM hi281_0
      have HC281_0 := aM hl281_0
      clear hi281_0 hl281_0
      replace p281 := eq_true p281
      replace q281 := eq_true q281
      go_wp2
      go_roundg k1
      case measure => have := HK1.out; omega
      case rel => exact ⟨(wrap64 (x5_1 + (ji6))), (wrap64 (x6_1 + 1)), (by first | rfl | (simp; done) | (simp only [← hji6] <;> (first | rfl | simp)) | (simp [*]; done)), (by first | rfl | (simp; done) | (simp [*]; done)), H', ⟨by have := HK1.out; omega⟩, ⟨xB HB.out⟩⟩
     ·
      rw [if_neg c5] at H
      exact absurd H (by simp)
    ·
     rw [if_neg c4] at H
     have c4b0 : decide (x6_1 < 20) = false := decide_eq_false c4
     clear c4
     obtain rfl := Option.some.inj H
     go_wp2
     go_ret
     exact ⟨by first | rfl | (simp [errW_none, errW_some] <;> rfl) | (simp [*, errW_none, errW_some] <;> rfl), xB HB.out⟩
   ·
    rw [if_neg c3] at H
    have c3b0 : decide (x6_1 < (l0.length : Int)) = false := decide_eq_false c3
    clear c3
    obtain rfl := Option.some.inj H
    go_wp2
    go_ret
    exact ⟨by first | rfl | (simp [errW_none, errW_some] <;> rfl) | (simp [*, errW_none, errW_some] <;> rfl), xB HB.out⟩
def r01_Copy.f (l0 : List Int) : Option (List Int) := (some (([] : List Int) : List Int)).bind fun y282 => (if y282.length + l0.length < 140737488355328 then (some (y282 ++ l0)) else (none))
set_option maxHeartbeats 8000000 in
set_option maxRecDepth 100000 in
theorem r01_Copy.calls (A0 : Option Addr) (c0 : Nat) (l0 : List Int) (r : List Int) (w : World) (hr0 : Kd.C (Kd.int .u8) w A0 l0.length l0) (hc0 : l0.length ≤ c0) (h : r01_Copy.f l0 = some r) :
  Calls Try.prog 9 #[.slice A0 l0.length c0] w fun e w' => ∃ v0_ : Value, e = .returned (v0_) ∧ Kd.R (Kd.int .u8) 5 w' w.heap.size (fun _ => True) v0_ r ∧ Below w.heap.size w w' := by
 have HR0 := aM hr0
 have HC0 := aM hc0
 clear hr0 hc0
 have HB := aM (Below.refl w.heap.size w)
 have H : ((some (([] : List Int) : List Int)).bind fun y282 => (if y282.length + l0.length < 140737488355328 then (some (y282 ++ l0)) else (none))) = some r := h
 clear h
 obtain ⟨y282, hy282⟩ : ∃ y_ : List Int, y_ = (([] : List Int)) := ⟨_, rfl⟩
 replace H : (if y282.length + l0.length < 140737488355328 then (some (y282 ++ l0)) else (none)) = some r := by first | (rw [hy282]; with_reducible exact H) | (have H2_ := (Option.bind_some _ _).symm.trans H; rw [hy282]; with_reducible exact H2_) | (have H2_ := (Option.bind_some _ _).symm.trans H; with_reducible exact H2_) | with_reducible exact H | (rw [hy282]; exact H) | exact H
 have Ny282 := aM hy282
 clear hy282
 by_cases c2 : y282.length + l0.length < 140737488355328
 ·
  rw [if_pos c2] at H
  have LMc2 := aM c2
  clear c2
  obtain ⟨y285, hy285⟩ : ∃ y_ : List Int, y_ = (y282 ++ l0) := ⟨_, rfl⟩
  replace H : (some y285) = some r := by first | (rw [hy285]; with_reducible exact H) | (have H2_ := (Option.bind_some _ _).symm.trans H; rw [hy285]; with_reducible exact H2_) | (have H2_ := (Option.bind_some _ _).symm.trans H; with_reducible exact H2_) | with_reducible exact H | (rw [hy285]; exact H) | exact H
  have Ny285 := aM hy285
  clear hy285
  obtain rfl := Option.some.inj H
  go_enter Try.func9, Try.ntmps9
  go_wp2_with (first | ((with_reducible refine gate_dst (N := 3) rfl ?_); refine Kd.R_lit (Kd.int .u8) _ 5 ?hg (N := 3) ?hd (xs := ([] : List Int)) (inner := []) (ok := fun _ => True) (okp := fun _ => True) ?hr ?hp (fun _ hk => hk) trivial (Below.refl _ _) (Nat.le_refl _) (by simp) ?_; (case hd => rfl); (case hg => rfl); (case hr => first | (go_simp; done) | (go_simp; rfl)); (case hp => exact (Reps.none _ _)); intro v283 w3 ho4 hb hg_ hnew_; clear hg_ hnew_; (first | rw [← Ny282.out] at ho4 | (simp only [Int.reduceToNat] at ho4; rw [← Ny282.out] at ho4)); have n0_ := aM (Kd.R_lower ho4 (below_size (xB HB.out))); have n1_ := aM (below_step (xB HB.out) hb); clear HB; have HO284 := n0_; have HB := n1_; clear n0_ n1_; clear hb ho4) | ((with_reducible refine gate_builtin (b := .append) (xs := #[.tmp 3, .tmp 4]) rfl ?_); at_builtin; refine Kd.R_append_rows (Kd.int .u8) (w0 := w) w.heap.size rfl (.tmp 3) (.tmp 4) 22 5 (.int .u8 0) 1 rfl Try.underlying22 info5 rfl (by decide) (by omega) v283 y282 l0 _ _ _ (fun _ => True) (fun _ => False) rfl rfl ?aO ?aR (fun _ _ h => h) (fun _ h => h.elim) ?aF ?aB ?aS ?aL ?_; (case aR => exact xC (Kd.C_below HR0.out HB.out)); (case aB => exact (xB HB.out)); (case aF => exact (fun _ _ => trivial)); (case aO => exact (xR HO284.out)); (case aS => exact (below_size (xB HB.out))); (case aL => have := LMc2.out; omega); intro v286 w5 ho hb hg hat; rw [← Ny285.out] at ho; have n0_ := aM (hb); have n1_ := aM (ho); clear HB; clear HO284; have HB := n0_; have HO287 := n1_; clear n0_ n1_; clear ho hb hg hat))
  go_ret
  exact ⟨_, by first | rfl | (simp [errW_none, errW_some] <;> rfl) | (simp [*, errW_none, errW_some] <;> rfl), by (with_reducible repeat (first | apply Kd.R_alloc | apply Kd.R_drewN | apply Kd.R_drew)); exact HO287.out, xB HB.out⟩
 ·
  rw [if_neg c2] at H
  exact absurd H (by simp)
end Go.Proofs.Ythaifibhflfpkaa.Q
end
section
namespace Go.Proofs.Ythaifibhflfpkaa.Q
open Go.RowKit Go.Proofs.YthaifibhflfpkaaW.PrintWords Go.Proofs.YthaifibhflfpkaaW.PrintLast Go.Proofs.YthaifibhflfpkaaW.PrintMore Go.Proofs.YthaifibhflfpkaaX
namespace Law
theorem go_len (l : List Int) : ∀ f fr i out, fr ≤ i → i ≤ l.length → out.length ≤ 3 * fr → (lz_Pack.go l f fr i out).length ≤ 3 * l.length + 2
  | 0, fr, i, out, _, _, h => by
    rw [lz_Pack.go]
    omega
  | f + 1, fr, i, out, h1, h2, h3 => by
    rw [lz_Pack.go]
    by_cases h5 : i + 4 ≤ l.length
    · rw [if_pos h5]
      cases hq : lz_Pack.lastAt l i (lz_Pack.keyAt l i) with
      | none => exact go_len l f fr (i + 1) out (by omega) (by omega) h3
      | some q =>
        simp only
        have hrun := lz_Pack.run_le l i q.toNat l.length 4 (by omega)
        split
        · exact go_len l f fr (i + 1) out (by omega) (by omega) h3
        · refine go_len l f _ _ _ (Nat.le_refl _) (by omega) ?_
          have := lz_Pack.part_len ((l.take i).drop fr) (i - q.toNat) _ hrun.1
          simp only [List.length_append, List.length_drop, List.length_take] at this ⊢
          omega
    · rw [if_neg h5]
      have := lz_Pack.litT_len (l.drop fr) 0
      simp only [List.length_append, List.length_drop] at this ⊢
      omega
def lensT (l : List (List Int)) : List Nat := l.map List.length
def packT (l : List (List Int)) : List Int := lz_Pack.go l.flatten (l.flatten.length + 1) 0 0 []
def tableT (l : List (List Int)) : List ByteArray := sym_Train.train (sym_Train.winL l 1024)
def codeT (l : List (List Int)) : List Int := tabB (tableT l) ++ sym_Encode.enc (tableT l) l.flatten.length (strOfNums l.flatten)
def loadT (l : List (List Int)) : List Int := if (codeT l).length < (packT l).length then codeT l else packT l
def kindT (l : List (List Int)) : Int := if (codeT l).length < (packT l).length then 2 else 1
def granT (l : List (List Int)) : List Int := kindT l :: (numB l.length ++ blockT (lensT l)) ++ rowB (loadT l)
structure Lines (l : List (List Int)) (n : Nat) : Prop where
  one : 1 ≤ l.length
  most : l.length ≤ 16
  long : ∀ b ∈ l, b.length ≤ 65536
  byte : ∀ b ∈ l, ∀ x ∈ b, 0 ≤ x ∧ x < 256
  all : l.flatten.length ≤ n
theorem Lines.flat {l : List (List Int)} {n : Nat} (h : Lines l n) : ∀ x ∈ l.flatten, 0 ≤ x ∧ x < 256 := fun x hx => by
  obtain ⟨b, hb, hxb⟩ := List.mem_flatten.1 hx
  exact h.byte b hb x hxb
theorem Lines.lens {l : List (List Int)} {n : Nat} (h : Lines l n) : (lensT l).length = l.length ∧ ∀ x ∈ lensT l, x < 2 ^ 64 := by
  refine ⟨by simp [lensT], fun x hx => ?_⟩
  obtain ⟨b, hb, rfl⟩ := List.mem_map.1 hx
  have := h.long b hb
  omega
theorem codeT_len {l : List (List Int)} {n : Nat} (h : Lines l n) : (codeT l).length ≤ 600 + 2 * n := by
  have hok := train_okL l
  have h1 := rowsB_length (tableT l) (fun s hs => okT_size hok s hs)
  have h2 := enc_len (tableT l) l.flatten.length (strOfNums l.flatten)
  have h3 := (numB_length (tableT l).length).2 (by have := hok.1; unfold tableT; omega)
  have h4 : (tableT l).length ≤ 32 := hok.1
  have h5 := h.all
  unfold codeT tabB
  rw [List.length_append, List.length_append]
  omega
theorem packT_len (l : List (List Int)) : (packT l).length ≤ 3 * l.flatten.length + 2 := go_len _ _ 0 0 [] (Nat.le_refl _) (Nat.zero_le _) (by simp)
theorem loadT_len {l : List (List Int)} {n : Nat} (h : Lines l n) : (loadT l).length ≤ 600 + 3 * n := by
  have h1 := codeT_len h
  have h2 := packT_len l
  have h3 := h.all
  unfold loadT
  split <;> omega
theorem granT_len {l : List (List Int)} {n : Nat} (h : Lines l n) (hn : n ≤ 10000000) : (granT l).length ≤ 2700 + 3 * n := by
  have h1 := loadT_len h
  have h2 := (numB_length (loadT l).length).2 (by omega)
  have h3 := blockT_le (lensT l) (by rw [h.lens.1]; exact h.one) (by rw [h.lens.1]; have := h.most; omega) h.lens.2
  have h4 := (numB_length l.length).2 (by have := h.most; omega)
  unfold granT rowB
  simp only [List.length_cons, List.length_append]
  omega
theorem rdL1_at {l : List (List Int)} {b : List Int} {i : Nat} (h : l[i]? = some b) : rd_L1 l (i : Int) = b := by
  unfold rd_L1
  rw [Int.toNat_natCast, List.getD_eq_getElem?_getD, h]
  rfl
theorem put_loop1 (x0 : List Int) (l : List (List Int)) (hl : l.length ≤ 16) {R : List Int × Int} (hlong : ∀ b ∈ l, b.length ≤ 65536)
    (h : Ev (fun k => texts_Put.l0 k x0 l (ints (lensT l)) l (l.length : Int) (l.length : Int)) R) :
    ∀ (r p : List (List Int)), p ++ r = l → Ev (fun k => texts_Put.l0 k x0 l (ints (lensT p) ++ List.replicate r.length 0) l (l.length : Int) (p.length : Int)) R
  | [], p, hp => by
    rw [List.append_nil] at hp
    subst hp
    rw [List.length_nil, List.replicate_zero, List.append_nil]
    exact h
  | b :: r, p, hp => by
    have hlt : p.length < l.length := by rw [← hp]; simp
    have hat : l[p.length]? = some b := by rw [← hp]; simp
    have hb := hlong b (List.mem_of_getElem? hat)
    have ih := put_loop1 x0 l hl hlong h r (p ++ [b]) (by rw [← hp]; simp)
    rw [show ((p ++ [b]).length : Int) = ((p.length + 1 : Nat) : Int) by simp, show lensT (p ++ [b]) = lensT p ++ [b.length] by simp [lensT]] at ih
    have HU := Lib.hid (wrapu b.length (by omega))
    have HS := Lib.hid (w64_succ p.length (by omega))
    have hpl : p.length = (lensT p).length := by simp [lensT]
    have hset : (ints (lensT p) ++ List.replicate (r.length + 1) 0).set p.length (b.length : Int) = ints (lensT p ++ [b.length]) ++ List.replicate r.length 0 := by
      rw [hpl]
      exact set_next (lensT p) r.length _ b.length rfl
    have hlen : (ints (lensT p) ++ List.replicate (r.length + 1) 0).length = l.length := by
      rw [List.length_append, ints_length, List.length_replicate, ← hp]
      simp [lensT]
    refine Ev.step (fun k => by rw [texts_Put.l0, rdL1_at hat, HU.out, HS.out, Int.toNat_natCast, List.length_cons, hset, hlen]) ?_
    exact Ev.pos (by omega) (Ev.pos (by omega) (Ev.pos (by omega) (Ev.neg (by omega) (Ev.pos (by omega) ih))))
theorem putG {l : List (List Int)} {n : Nat} (h : Lines l n) (hn : n ≤ 65536) (x0 : List Int) (hx1 : x0.length ≤ 140737488351232) (hx0 : x0.length + 3 * n + 3196 ≤ 140737488355328) : Ev (fun k => texts_Put.f k x0 l) (x0 ++ granT l, 0) := by
  have hok := train_okL l
  have hall := h.all
  have hmost := h.most
  have hone := h.one
  have hcode := codeT_len h
  have hpack := packT_len l
  have hcl : (codeT l).length = (tabB (tableT l)).length + (sym_Encode.enc (tableT l) l.flatten.length (strOfNums l.flatten)).length := by
    unfold codeT
    rw [List.length_append]
  have hbl := blockT_le (lensT l) (by rw [h.lens.1]; exact hone) (by rw [h.lens.1]; omega) h.lens.2
  have hnl := (numB_length l.length).2 (by omega)
  unfold texts_Put.f
  refine Ev.neg (by omega) ?_
  rw [decide_eq_false (by omega)]
  refine Ev.step (fun k => by rw [texts_Put.j0]) ?_
  refine Ev.neg (by decide) (Ev.pos (by omega) (Ev.pos (by omega) ?_))
  rw [Int.toNat_natCast]
  refine put_loop1 x0 l hmost h.long ?_ l [] rfl
  have hjoin : bytes_Join.f l [] = some l.flatten := by
    unfold bytes_Join.f
    rw [if_pos ⟨rfl, h.byte, by omega, by omega⟩]
  have hpk : lz_Pack.f l.flatten = some (packT l) := pack' (by omega)
  have htr : sym_Train.f l = some (tableT l) := trainP l (by omega)
  have hen : sym_Encode.f (tableT l) l.flatten = some (sym_Encode.enc (tableT l) l.flatten.length (strOfNums l.flatten), 0) := encode' hok l.flatten (by omega)
  have hW := Lib.hid (w64_nat (((tabB (tableT l)).length : Int) + ((sym_Encode.enc (tableT l) l.flatten.length (strOfNums l.flatten)).length : Int)) (codeT l).length (by omega) (by omega))
  refine Ev.step (fun k => by rw [texts_Put.l0]) ?_
  refine Ev.neg (by omega) (Ev.get hjoin (Ev.get hpk (Ev.get htr (Ev.bind (putTable (tableT l) (okT_f hok) (fun s hs => okT_size hok s hs) hok.1) (Ev.get hen ?_)))))
  simp only
  rw [hW.out]
  by_cases hc : (codeT l).length < (packT l).length
  · refine Ev.pos (by exact_mod_cast hc) (Ev.pos (by omega) (Ev.get (a := x0) (if_pos (by omega)) (Ev.pos (by omega) (Ev.bind (putList (lensT l) (by rw [h.lens.1]; exact hone) (by rw [h.lens.1]; omega) h.lens.2 (x0 ++ [2]) (by simp; omega)) (Ev.bind (putRow _ (codeT l) (by rw [h.lens.1]; simp; omega)) ?_)))))
    have e : x0 ++ granT l = x0 ++ [2] ++ (numB (lensT l).length ++ blockT (lensT l)) ++ rowB (codeT l) := by
      unfold granT kindT loadT
      rw [if_pos hc, if_pos hc, h.lens.1]
      simp
    rw [e]
    exact Ev.now _
  · refine Ev.neg (by exact_mod_cast hc) (Ev.get (a := x0) (if_pos (by omega)) (Ev.pos (by omega) (Ev.bind (putList (lensT l) (by rw [h.lens.1]; exact hone) (by rw [h.lens.1]; omega) h.lens.2 (x0 ++ [1]) (by simp; omega)) (Ev.bind (putRow _ (packT l) (by rw [h.lens.1]; simp; omega)) ?_))))
    have e : x0 ++ granT l = x0 ++ [1] ++ (numB (lensT l).length ++ blockT (lensT l)) ++ rowB (packT l) := by
      unfold granT kindT loadT
      rw [if_neg hc, if_neg hc, h.lens.1]
      simp
    rw [e]
    exact Ev.now _
theorem putP {l : List (List Int)} (h : Lines l 300) (x0 : List Int) (hx0 : x0.length ≤ 140737488351232) : Ev (fun k => texts_Put.f k x0 l) (x0 ++ granT l, 0) := putG h (by omega) x0 hx0 (by omega)
end Law
namespace Law
theorem right_loop (l : List (List Int)) (hl : l.length ≤ 16) : ∀ (r : List (List Int)) (i : Nat), l.drop i = r → i ≤ l.length → Ev (fun k => r11_Right.l0 k l (i : Int)) (if ∀ b ∈ r, b.length ≤ 65536 then 0 else 5)
  | [], i, hd, hi => by
    have h1 : l.length ≤ i := List.drop_eq_nil_iff.1 hd
    refine Ev.step (fun k => by rw [r11_Right.l0]) ?_
    rw [if_pos (by simp)]
    exact Ev.neg (by omega) (Ev.now _)
  | b :: r, i, hd, hi => by
    obtain ⟨hlt, hat, hr⟩ := drop_cons hd
    have ih := right_loop l hl r (i + 1) hr (by omega)
    have HS := Lib.hid (w64_succ i (by omega))
    refine Ev.step (fun k => by rw [r11_Right.l0, rdL1_at hat, HS.out]) ?_
    refine Ev.pos (by omega) (Ev.pos (by omega) ?_)
    by_cases hb : b.length ≤ 65536
    · refine Ev.neg (by omega) ?_
      have e : (∀ x ∈ b :: r, x.length ≤ 65536) ↔ ∀ x ∈ r, x.length ≤ 65536 := by simp [hb]
      simp only [e]
      exact ih
    · refine Ev.pos (by omega) ?_
      rw [if_neg (fun h => hb (h b (by simp)))]
      exact Ev.now _
theorem right_few (l : List (List Int)) (h : ¬ (1 ≤ l.length ∧ l.length ≤ 16)) : Ev (fun k => r11_Right.f k l) 1 := by
  unfold r11_Right.f
  by_cases h1 : (l.length : Int) < 1
  · refine Ev.pos h1 ?_
    refine Ev.step (fun k => by rw [r11_Right.j0]) ?_
    exact Ev.pos rfl (Ev.now _)
  · refine Ev.neg h1 ?_
    rw [decide_eq_true (by omega)]
    refine Ev.step (fun k => by rw [r11_Right.j0]) ?_
    exact Ev.pos rfl (Ev.now _)
theorem right_some (l : List (List Int)) (h1 : 1 ≤ l.length) (h2 : l.length ≤ 16) : Ev (fun k => r11_Right.f k l) (if ∀ b ∈ l, b.length ≤ 65536 then 0 else 5) := by
  unfold r11_Right.f
  refine Ev.neg (by omega) ?_
  rw [decide_eq_false (by omega)]
  refine Ev.step (fun k => by rw [r11_Right.j0]) ?_
  exact Ev.neg (by decide) (right_loop l h2 l 0 rfl (by omega))
theorem great_loop (l : List (List Int)) (hl : l.length ≤ 16) (hlong : ∀ b ∈ l, b.length ≤ 65536) (m : Int) : ∀ (r : List (List Int)) (i n : Nat), l.drop i = r → i ≤ l.length → n ≤ 65536 * i → Ev (fun k => w11_great.l0 k l m (n : Int) (i : Int)) (decide (((n + r.flatten.length : Nat) : Int) > m))
  | [], i, n, hd, hi, hn => by
    have h1 : l.length ≤ i := List.drop_eq_nil_iff.1 hd
    refine Ev.step (fun k => by rw [w11_great.l0]) ?_
    refine Ev.neg (by omega) ?_
    exact Ev.now _
  | b :: r, i, n, hd, hi, hn => by
    obtain ⟨hlt, hat, hr⟩ := drop_cons hd
    have hb := hlong b (List.mem_of_getElem? hat)
    have ih := great_loop l hl hlong m r (i + 1) (n + b.length) hr (by omega) (by omega)
    have HS := Lib.hid (w64_succ i (by omega))
    have hmn : mn (b.length : Int) 1048576 = (b.length : Int) := by unfold mn; split <;> omega
    have HA := Lib.hid (w64_add n b.length (by omega) (by omega))
    refine Ev.step (fun k => by rw [w11_great.l0, rdL1_at hat, HS.out, hmn, HA.out]) ?_
    refine Ev.pos (by omega) (Ev.pos (by omega) (Ev.pos (by omega) ?_))
    rw [List.flatten_cons, List.length_append, ← Nat.add_assoc]
    exact ih
theorem great (l : List (List Int)) (hl : l.length ≤ 16) (hlong : ∀ b ∈ l, b.length ≤ 65536) (m : Int) : Ev (fun k => w11_great.f k l m) (decide ((l.flatten.length : Int) > m)) := by
  unfold w11_great.f
  have h := great_loop l hl hlong m l 0 0 rfl (by omega) (by omega)
  rw [Nat.zero_add] at h
  exact h
theorem put_few (x0 : List Int) (l : List (List Int)) (h : ¬ (1 ≤ l.length ∧ l.length ≤ 16)) : Ev (fun k => texts_Put.f k x0 l) ([], 1) := by
  unfold texts_Put.f
  by_cases h1 : (l.length : Int) < 1
  · refine Ev.pos h1 ?_
    refine Ev.step (fun k => by rw [texts_Put.j0]) ?_
    exact Ev.pos rfl (Ev.now _)
  · refine Ev.neg h1 ?_
    rw [decide_eq_true (by omega)]
    refine Ev.step (fun k => by rw [texts_Put.j0]) ?_
    exact Ev.pos rfl (Ev.now _)
theorem put_long_loop (x0 : List Int) (l : List (List Int)) (hl : l.length ≤ 16) : ∀ (r p : List (List Int)) (x6 : List Int), p ++ r = l → x6.length = l.length → (¬ ∀ b ∈ r, b.length ≤ 65536) → Ev (fun k => texts_Put.l0 k x0 l x6 l (l.length : Int) (p.length : Int)) ([], 5)
  | [], p, x6, hp, hx, hr => absurd (by simp) hr
  | b :: r, p, x6, hp, hx, hr => by
    have hlt : p.length < l.length := by rw [← hp]; simp
    have hat : l[p.length]? = some b := by rw [← hp]; simp
    have HS := Lib.hid (w64_succ p.length (by omega))
    refine Ev.step (fun k => by rw [texts_Put.l0, rdL1_at hat, HS.out]) ?_
    refine Ev.pos (by omega) (Ev.pos (by omega) (Ev.pos (by omega) ?_))
    by_cases hb : b.length ≤ 65536
    · have ih := put_long_loop x0 l hl r (p ++ [b]) (x6.set ((p.length : Int)).toNat (IntKind.u64.wrap ((b.length : Int)))) (by rw [← hp]; simp) (by simpa using hx) (fun h => hr (fun c hc => by
        rcases List.mem_cons.1 hc with rfl | hc
        · exact hb
        · exact h c hc))
      rw [show ((p ++ [b]).length : Int) = ((p.length + 1 : Nat) : Int) by simp] at ih
      exact Ev.neg (by omega) (Ev.pos (by omega) ih)
    · exact Ev.pos (by omega) (Ev.now _)
theorem put_long (x0 : List Int) (l : List (List Int)) (h1 : 1 ≤ l.length) (h2 : l.length ≤ 16) (hlong : ¬ ∀ b ∈ l, b.length ≤ 65536) : Ev (fun k => texts_Put.f k x0 l) ([], 5) := by
  unfold texts_Put.f
  refine Ev.neg (by omega) ?_
  rw [decide_eq_false (by omega)]
  refine Ev.step (fun k => by rw [texts_Put.j0]) ?_
  refine Ev.neg (by decide) (Ev.pos (by omega) (Ev.pos (by omega) ?_))
  exact put_long_loop x0 l h2 l [] _ rfl (by simp) hlong
theorem same (a : List Int) : r01_Same.f a a = some true := by
  unfold r01_Same.f
  simp
theorem copy (a : List Int) (h : a.length < 140737488355328) : r01_Copy.f a = some a := by
  unfold r01_Copy.f
  rw [Option.bind_some, if_pos (by simpa using h)]
  rfl
def abc : List (List Int) := [[97, 98, 99]]
theorem abc_lines : Lines abc 300 := ⟨by decide, by decide, by decide, by decide, by decide⟩
theorem abc_wins : sym_Train.winL abc 1024 = [[97, 98], [97, 98, 99], [98, 99]] := by decide
theorem abc_table : tableT abc = [] := by
  unfold tableT
  rw [abc_wins]
  unfold sym_Train.train
  have e : sym_Train.pieces [[97, 98], [97, 98, 99], [98, 99]] = [] := by decide
  rw [e]
  simp
theorem abc_gran : granT abc = [1, 1, 1, 3, 0, 0, 4, 48, 97, 98, 99] := by
  have e : codeT abc = [0, 255, 97, 255, 98, 255, 99] := by
    unfold codeT
    rw [abc_table]
    decide
  have e2 : packT abc = [48, 97, 98, 99] := by decide
  have e3 : kindT abc = 1 := by unfold kindT; rw [e, e2]; decide
  have e4 : loadT abc = [48, 97, 98, 99] := by unfold loadT; rw [e, e2]; decide
  unfold granT
  rw [e3, e4]
  decide
theorem alive11 : Ev (fun k => w11_alive.f k) true := by
  unfold w11_alive.f
  have h := putP abc_lines [] (by simp)
  rw [List.nil_append, abc_gran] at h
  exact Ev.bind h (Ev.pos rfl (Ev.get (same _) (Ev.now _)))
end Law
end Go.Proofs.Ythaifibhflfpkaa.Q
end
