/- A part of the claim's own texts: words, walks and plain laws. -/
import Derived.Test.YthaifibhflfpkaaTp2
import Derived.Test.YthaifibhflfpkaaTp13
import Derived.Test.YthaifibhflfpkaaTp11
import Derived.Test.YthaifibhflfpkaaTp9
import Derived.Test.YthaifibhflfpkaaTp4
import Derived.Test.YthaifibhflfpkaaTp8
import Derived.Test.YthaifibhflfpkaaTp7
import Derived.Test.YthaifibhflfpkaaTp14
import Derived.Test.YthaifibhflfpkaaTp12
import Derived.SizedLaws
import Derived.ChangeSlices
section
namespace Go.Proofs.Ythaifibhflfpkaa.Q
open Go.RowKit Go.Proofs.YthaifibhflfpkaaW.PrintWords Go.Proofs.YthaifibhflfpkaaW.PrintLast Go.Proofs.YthaifibhflfpkaaW.PrintMore Go.Proofs.YthaifibhflfpkaaX
attribute [local go_sem] max2_int min2_int max_two min_two max_three min_three max_four min_four   -- for this text's walks alone
set_option linter.unusedVariables false
set_option linter.unusedSimpArgs false
def r11_joined.l0 : Nat → List (List Int) → List Int → List Int → Int → Option (List Int × List Int)
 | 0, _, _, _, _ => none
 | k + 1, x0, x4, x5, x6 => if x6 < (x0.length : Int) then (if 0 ≤ x6 then (if x4.length + (rd_L1 x0 x6).length < 140737488355328 then (if x5.length < 17592186044416 then (r11_joined.l0 k x0 (x4 ++ (rd_L1 x0 x6)) (x5 ++ [IntKind.u64.wrap (((rd_L1 x0 x6).length : Int))]) (wrap64 (x6 + 1))) else (none)) else (none)) else (none)) else (some (x4, x5))
def r11_joined.f (k : Nat) (l0 : List (List Int)) : Option (List Int × List Int) := r11_joined.l0 k l0 ([] : List Int) ([] : List Int) 0
set_option maxHeartbeats 8000000 in
set_option maxRecDepth 100000 in
theorem r11_joined.calls (k : Nat) (A0 : Option Addr) (c0 : Nat) (l0 : List (List Int)) (r1 : List Int) (r2 : List Int) (w : World) (hr0 : Kd.C (Kd.slice 5 (Kd.int .u8)) w A0 l0.length l0) (hc0 : l0.length ≤ c0) (h : r11_joined.f k l0 = some (r1, r2)) :
  Calls Try.prog 24 #[.slice A0 l0.length c0] w fun e w' => ∃ v0_ v1_ : Value, e = .returned (.tuple #[v0_, v1_]) ∧ Kd.R (Kd.int .u8) 5 w' w.heap.size (fun _ => True) v0_ r1 ∧ Kd.R (Kd.int .u64) 40 w' w.heap.size (fun _ => True) v1_ r2 ∧ Below w.heap.size w w' := by
 have HR0 := aM hr0
 have HC0 := aM hc0
 clear hr0 hc0
 have HB := aM (Below.refl w.heap.size w)
 have H : (r11_joined.l0 k l0 ([] : List Int) ([] : List Int) 0) = some (r1, r2) := h
 clear h
 have H' := aM H
 clear H
 go_enter Try.func24, Try.ntmps24
 go_wp2
 go_loopg [4, 5, 6] k (fun kq v4 v5 v6 w' => ∃ (x4_1 : List Int) (x5_1 : List Int) (x6_1 : Int), v6 = .int .i64 x6_1 ∧ Aside0 (r11_joined.l0 kq l0 x4_1 x5_1 x6_1 = some (r1, r2)) ∧ Aside0 (kq ≤ k) ∧ Aside0 (Kd.R (Kd.int .u8) 5 w' w.heap.size (fun _ => True) v4 x4_1) ∧ Aside0 (Kd.R (Kd.int .u64) 40 w' w.heap.size (fun _ => True) v5 x5_1) ∧ Aside0 (Below w.heap.size w w'))
 case atStart => exact ⟨(([] : List Int)), (([] : List Int)), (0), (by first | rfl | (simp; done) | (simp [*]; done)), H', ⟨Nat.le_refl _⟩, ⟨by first | exact Kd.R_nil _ _ _ _ _ | exact Kd.N_nil _ _ _ _ _ | exact Kd.V_nil _ _ _ _ _ | exact Kd.Q_nil _ _ _ _ _ | exact Kd.S_nil _ _ _ _ _⟩, ⟨by first | exact Kd.R_nil _ _ _ _ _ | exact Kd.N_nil _ _ _ _ _ | exact Kd.V_nil _ _ _ _ _ | exact Kd.Q_nil _ _ _ _ _ | exact Kd.S_nil _ _ _ _ _⟩, ⟨xB HB.out⟩⟩
 case round =>
  clear H'
  obtain ⟨x4_1, x5_1, x6_1, rfl, HA, HK1, HO_4, HO_5, HB⟩ := hrel
  cases gk with
  | zero => exact absurd HA.out (by simp [r11_joined.l0])
  | succ k1 =>
   have H := HA.out
   clear HA
   simp only [r11_joined.l0] at H
   by_cases c2 : x6_1 < (l0.length : Int)
   ·
    rw [if_pos c2] at H
    have c2b0 : decide (x6_1 < (l0.length : Int)) = true := decide_eq_true c2
    clear c2
    by_cases c3 : 0 ≤ x6_1
    ·
     rw [if_pos c3] at H
     have c3b0 : decide (0 ≤ x6_1) = true := decide_eq_true c3
     clear c3
     by_cases c4 : x4_1.length + (rd_L1 l0 x6_1).length < 140737488355328
     ·
      rw [if_pos c4] at H
      have LMc4 := aM c4
      clear c4
      obtain ⟨y289, hy289⟩ : ∃ y_ : List Int, y_ = (x4_1 ++ (rd_L1 l0 x6_1)) := ⟨_, rfl⟩
      replace H : (if x5_1.length < 17592186044416 then (r11_joined.l0 k1 l0 y289 (x5_1 ++ [IntKind.u64.wrap (((rd_L1 l0 x6_1).length : Int))]) (wrap64 (x6_1 + 1))) else (none)) = some (r1, r2) := by first | (rw [hy289]; with_reducible exact H) | (have H2_ := (Option.bind_some _ _).symm.trans H; rw [hy289]; with_reducible exact H2_) | (have H2_ := (Option.bind_some _ _).symm.trans H; with_reducible exact H2_) | with_reducible exact H | (rw [hy289]; exact H) | exact H
      have Ny289 := aM hy289
      clear hy289
      by_cases c5 : x5_1.length < 17592186044416
      ·
       rw [if_pos c5] at H
       have LMc5 := aM c5
       clear c5
       obtain ⟨y293, hy293⟩ : ∃ y_ : List Int, y_ = (x5_1 ++ [IntKind.u64.wrap (((rd_L1 l0 x6_1).length : Int))]) := ⟨_, rfl⟩
       replace H : (r11_joined.l0 k1 l0 y289 y293 (wrap64 (x6_1 + 1))) = some (r1, r2) := by first | (rw [hy293]; with_reducible exact H) | (have H2_ := (Option.bind_some _ _).symm.trans H; rw [hy293]; with_reducible exact H2_) | (have H2_ := (Option.bind_some _ _).symm.trans H; with_reducible exact H2_) | with_reducible exact H | (rw [hy293]; exact H) | exact H
       have Ny293 := aM hy293
       clear hy293
       have H' := aM H
       clear H
       have p288 : 0 ≤ (x6_1 : Int) := of_decide_eq_true (by first | (with_reducible assumption) | assumption)
       have q288 : x6_1 < (l0.length : Int) := of_decide_eq_true (by first | (with_reducible assumption) | assumption)
       obtain ⟨ad288, A288_0, c288_0, e288, hx288_0, hl288_0, hi288_0⟩ := at_L1 HR0.out x6_1 p288 q288
       cases e288
       replace hx288_0 := (HB.out.cell (World.block_lt_of_cell? w _ hx288_0)).trans hx288_0
       have HR288_0 := aM hi288_0
       have HC288_0 := aM hl288_0
       clear hi288_0 hl288_0
       replace p288 := eq_true p288
       replace q288 := eq_true q288
       go_wp2_with (first | ((with_reducible refine gate_builtin (b := .append) (xs := #[.tmp 13, .tmp 17]) rfl ?_); at_builtin; refine Kd.R_append_rows (Kd.int .u8) (w0 := w) w.heap.size rfl (.tmp 13) (.tmp 17) 22 5 (.int .u8 0) 1 rfl Try.underlying22 info5 rfl (by decide) (by omega) u4 x4_1 (rd_L1 l0 x6_1) _ _ _ (fun _ => True) (fun _ => False) rfl rfl ?aO ?aR (fun _ _ h => h) (fun _ h => h.elim) ?aF ?aB ?aS ?aL ?_; (case aR => exact xC (Kd.C_below HR288_0.out HB.out)); (case aB => exact (xB HB.out)); (case aF => exact (fun _ _ => trivial)); (case aO => exact (xR HO_4.out)); (case aS => exact (below_size (xB HB.out))); (case aL => have := LMc4.out; omega); intro v290 w6 ho hb hg hat; rw [← Ny289.out] at ho; have n0_ := aM (Kd.R_over' (xR HO_5.out) (Kd.R_typed (xR HO_4.out)) (by decide) hg); have n1_ := aM (hb); have n2_ := aM (ho); clear HO_5; clear HB; clear HO_4; have HO_5 := n0_; have HB := n1_; have HO291 := n2_; clear n0_ n1_ n2_; clear ho hb hg hat; have p292 : 0 ≤ (x6_1 : Int) := of_decide_eq_true (by first | (with_reducible assumption) | assumption); have q292 : x6_1 < (l0.length : Int) := of_decide_eq_true (by first | (with_reducible assumption) | assumption); obtain ⟨ad292, A292_0, c292_0, e292, hx292_0, hl292_0, hi292_0⟩ := at_L1 HR0.out x6_1 p292 q292; obtain rfl : ad288 = ad292 := (by injection e292); replace hx292_0 := (HB.out.cell (World.block_lt_of_cell? w _ hx292_0)).trans hx292_0; have HR292_0 := aM hi292_0; have HC292_0 := aM hl292_0; clear hi292_0 hl292_0; replace p292 := eq_true p292; replace q292 := eq_true q292) | ((with_reducible refine gate_builtin (b := .append) (xs := #[.tmp 19, .tmp 26]) rfl ?_); at_builtin; refine Kd.R_append (Kd.int .u64) (w0 := w) w.heap.size rfl (.tmp 19) (.tmp 26) 39 40 (.int .u64 0) 8 rfl Try.underlying39 info40 rfl (by decide) (by omega) u5 x5_1 (IntKind.u64.wrap (((rd_L1 l0 x6_1).length : Int))) [.int .u64 (IntKind.u64.wrap (((rd_L1 l0 x6_1).length : Int)))] (fun _ => True) (fun _ => False) rfl rfl ?aP (fun _ hk => hk.elim) ?aF ?aO ?aB ?aS ?aL ?_; (case aP => exact rfl); (case aB => exact (xB HB.out)); (case aF => exact (fun _ _ => trivial)); (case aO => exact (xR HO_5.out)); (case aS => exact (below_size (xB HB.out))); (case aL => have := LMc5.out; omega); intro v294 w7 ho hb hg hat; rw [← Ny293.out] at ho; have n0_ := aM (Kd.R_over' (xR HO291.out) (Kd.R_typed (xR HO_5.out)) (by decide) hg); have n1_ := aM (hb); have n2_ := aM (ho); clear HO291; clear HB; clear HO_5; have HO291 := n0_; have HB := n1_; have HO295 := n2_; clear n0_ n1_ n2_; clear ho hb hg hat))
       go_roundg k1
       case measure => have := HK1.out; omega
       case rel => exact ⟨(y289), (y293), (wrap64 (x6_1 + 1)), (by first | rfl | (simp; done) | (simp [*]; done)), H', ⟨by have := HK1.out; omega⟩, ⟨by (with_reducible repeat (first | apply Kd.R_alloc | apply Kd.R_drewN | apply Kd.R_drew)); exact HO291.out⟩, ⟨by (with_reducible repeat (first | apply Kd.R_alloc | apply Kd.R_drewN | apply Kd.R_drew)); exact HO295.out⟩, ⟨xB HB.out⟩⟩
      ·
       rw [if_neg c5] at H
       exact absurd H (by simp)
     ·
      rw [if_neg c4] at H
      exact absurd H (by simp)
    ·
     rw [if_neg c3] at H
     exact absurd H (by simp)
   ·
    rw [if_neg c2] at H
    have c2b0 : decide (x6_1 < (l0.length : Int)) = false := decide_eq_false c2
    clear c2
    simp only [Option.some.injEq, Prod.mk.injEq] at H
    obtain ⟨rfl, rfl⟩ := H
    go_wp2
    go_ret2
    exact ⟨_, _, by first | rfl | (simp [errW_none, errW_some] <;> rfl) | (simp [*, errW_none, errW_some] <;> rfl), by (with_reducible repeat (first | apply Kd.R_alloc | apply Kd.R_drewN | apply Kd.R_drew)); exact HO_4.out, by (with_reducible repeat (first | apply Kd.R_alloc | apply Kd.R_drewN | apply Kd.R_drew)); exact HO_5.out, xB HB.out⟩
def r11_Bytes.f (k : Nat) (l0 : List (List Int)) : Option (List Int) := (r11_joined.f k l0).bind fun bt531 => ((r05_Pack.f k bt531.1).bind fun t537 => ((r06_Train.f k l0).bind fun t540 => ((r06_Encode.f k t540 bt531.1).bind fun bt543 => ((r06_Table.f k t540).bind fun t547 => (if t547.length + bt543.1.length < 140737488355328 then ((some (t547 ++ bt543.1 : List Int)).bind fun y550 => (if (y550.length : Int) < (t537.length : Int) then ((some (([2] : List Int) : List Int)).bind fun y553 => ((r04_List.f k bt531.2).bind fun t556 => (if y553.length + t556.length < 140737488355328 then ((some (y553 ++ t556 : List Int)).bind fun y559 => ((r02_Row.f k y550).bind fun t562 => (if y559.length + t562.length < 140737488355328 then (some (y559 ++ t562)) else (none)))) else (none)))) else ((some (([1] : List Int) : List Int)).bind fun y568 => ((r04_List.f k bt531.2).bind fun t571 => (if y568.length + t571.length < 140737488355328 then ((some (y568 ++ t571 : List Int)).bind fun y574 => ((r02_Row.f k t537).bind fun t577 => (if y574.length + t577.length < 140737488355328 then (some (y574 ++ t577)) else (none)))) else (none)))))) else (none))))))
set_option maxHeartbeats 8000000 in
set_option maxRecDepth 100000 in
theorem r11_Bytes.calls (k : Nat) (A0 : Option Addr) (c0 : Nat) (l0 : List (List Int)) (r : List Int) (w : World) (hr0 : Kd.C (Kd.slice 5 (Kd.int .u8)) w A0 l0.length l0) (hc0 : l0.length ≤ c0) (h : r11_Bytes.f k l0 = some r) :
  Calls Try.prog 12 #[.slice A0 l0.length c0] w fun e w' => ∃ v0_ : Value, e = .returned (v0_) ∧ Kd.R (Kd.int .u8) 5 w' w.heap.size (fun _ => True) v0_ r ∧ Below w.heap.size w w' := by
 have HR0 := aM hr0
 have HC0 := aM hc0
 clear hr0 hc0
 have HB := aM (Below.refl w.heap.size w)
 have H : ((r11_joined.f k l0).bind fun bt531 => ((r05_Pack.f k bt531.1).bind fun t537 => ((r06_Train.f k l0).bind fun t540 => ((r06_Encode.f k t540 bt531.1).bind fun bt543 => ((r06_Table.f k t540).bind fun t547 => (if t547.length + bt543.1.length < 140737488355328 then ((some (t547 ++ bt543.1 : List Int)).bind fun y550 => (if (y550.length : Int) < (t537.length : Int) then ((some (([2] : List Int) : List Int)).bind fun y553 => ((r04_List.f k bt531.2).bind fun t556 => (if y553.length + t556.length < 140737488355328 then ((some (y553 ++ t556 : List Int)).bind fun y559 => ((r02_Row.f k y550).bind fun t562 => (if y559.length + t562.length < 140737488355328 then (some (y559 ++ t562)) else (none)))) else (none)))) else ((some (([1] : List Int) : List Int)).bind fun y568 => ((r04_List.f k bt531.2).bind fun t571 => (if y568.length + t571.length < 140737488355328 then ((some (y568 ++ t571 : List Int)).bind fun y574 => ((r02_Row.f k t537).bind fun t577 => (if y574.length + t577.length < 140737488355328 then (some (y574 ++ t577)) else (none)))) else (none)))))) else (none))))))) = some r := h
 clear h
 replace H := Option.bind_eq_some_iff.mp H
 obtain ⟨⟨t531, t532⟩, A20, H⟩ := H
 replace H : ((r05_Pack.f k t531).bind fun t537 => ((r06_Train.f k l0).bind fun t540 => ((r06_Encode.f k t540 t531).bind fun bt543 => ((r06_Table.f k t540).bind fun t547 => (if t547.length + bt543.1.length < 140737488355328 then ((some (t547 ++ bt543.1 : List Int)).bind fun y550 => (if (y550.length : Int) < (t537.length : Int) then ((some (([2] : List Int) : List Int)).bind fun y553 => ((r04_List.f k t532).bind fun t556 => (if y553.length + t556.length < 140737488355328 then ((some (y553 ++ t556 : List Int)).bind fun y559 => ((r02_Row.f k y550).bind fun t562 => (if y559.length + t562.length < 140737488355328 then (some (y559 ++ t562)) else (none)))) else (none)))) else ((some (([1] : List Int) : List Int)).bind fun y568 => ((r04_List.f k t532).bind fun t571 => (if y568.length + t571.length < 140737488355328 then ((some (y568 ++ t571 : List Int)).bind fun y574 => ((r02_Row.f k t537).bind fun t577 => (if y574.length + t577.length < 140737488355328 then (some (y574 ++ t577)) else (none)))) else (none)))))) else (none)))))) = some r := H
 have A2 := aM A20
 clear A20
 replace H := Option.bind_eq_some_iff.mp H
 obtain ⟨t537, A30, H⟩ := H
 replace H : ((r06_Train.f k l0).bind fun t540 => ((r06_Encode.f k t540 t531).bind fun bt543 => ((r06_Table.f k t540).bind fun t547 => (if t547.length + bt543.1.length < 140737488355328 then ((some (t547 ++ bt543.1 : List Int)).bind fun y550 => (if (y550.length : Int) < (t537.length : Int) then ((some (([2] : List Int) : List Int)).bind fun y553 => ((r04_List.f k t532).bind fun t556 => (if y553.length + t556.length < 140737488355328 then ((some (y553 ++ t556 : List Int)).bind fun y559 => ((r02_Row.f k y550).bind fun t562 => (if y559.length + t562.length < 140737488355328 then (some (y559 ++ t562)) else (none)))) else (none)))) else ((some (([1] : List Int) : List Int)).bind fun y568 => ((r04_List.f k t532).bind fun t571 => (if y568.length + t571.length < 140737488355328 then ((some (y568 ++ t571 : List Int)).bind fun y574 => ((r02_Row.f k t537).bind fun t577 => (if y574.length + t577.length < 140737488355328 then (some (y574 ++ t577)) else (none)))) else (none)))))) else (none))))) = some r := H
 have A3 := aM A30
 clear A30
 replace H := Option.bind_eq_some_iff.mp H
 obtain ⟨t540, A40, H⟩ := H
 replace H : ((r06_Encode.f k t540 t531).bind fun bt543 => ((r06_Table.f k t540).bind fun t547 => (if t547.length + bt543.1.length < 140737488355328 then ((some (t547 ++ bt543.1 : List Int)).bind fun y550 => (if (y550.length : Int) < (t537.length : Int) then ((some (([2] : List Int) : List Int)).bind fun y553 => ((r04_List.f k t532).bind fun t556 => (if y553.length + t556.length < 140737488355328 then ((some (y553 ++ t556 : List Int)).bind fun y559 => ((r02_Row.f k y550).bind fun t562 => (if y559.length + t562.length < 140737488355328 then (some (y559 ++ t562)) else (none)))) else (none)))) else ((some (([1] : List Int) : List Int)).bind fun y568 => ((r04_List.f k t532).bind fun t571 => (if y568.length + t571.length < 140737488355328 then ((some (y568 ++ t571 : List Int)).bind fun y574 => ((r02_Row.f k t537).bind fun t577 => (if y574.length + t577.length < 140737488355328 then (some (y574 ++ t577)) else (none)))) else (none)))))) else (none)))) = some r := H
 have A4 := aM A40
 clear A40
 replace H := Option.bind_eq_some_iff.mp H
 obtain ⟨⟨t543, t544⟩, A50, H⟩ := H
 replace H : ((r06_Table.f k t540).bind fun t547 => (if t547.length + t543.length < 140737488355328 then ((some (t547 ++ t543 : List Int)).bind fun y550 => (if (y550.length : Int) < (t537.length : Int) then ((some (([2] : List Int) : List Int)).bind fun y553 => ((r04_List.f k t532).bind fun t556 => (if y553.length + t556.length < 140737488355328 then ((some (y553 ++ t556 : List Int)).bind fun y559 => ((r02_Row.f k y550).bind fun t562 => (if y559.length + t562.length < 140737488355328 then (some (y559 ++ t562)) else (none)))) else (none)))) else ((some (([1] : List Int) : List Int)).bind fun y568 => ((r04_List.f k t532).bind fun t571 => (if y568.length + t571.length < 140737488355328 then ((some (y568 ++ t571 : List Int)).bind fun y574 => ((r02_Row.f k t537).bind fun t577 => (if y574.length + t577.length < 140737488355328 then (some (y574 ++ t577)) else (none)))) else (none)))))) else (none))) = some r := H
 have A5 := aM A50
 clear A50
 replace H := Option.bind_eq_some_iff.mp H
 obtain ⟨t547, A60, H⟩ := H
 replace H : (if t547.length + t543.length < 140737488355328 then ((some (t547 ++ t543 : List Int)).bind fun y550 => (if (y550.length : Int) < (t537.length : Int) then ((some (([2] : List Int) : List Int)).bind fun y553 => ((r04_List.f k t532).bind fun t556 => (if y553.length + t556.length < 140737488355328 then ((some (y553 ++ t556 : List Int)).bind fun y559 => ((r02_Row.f k y550).bind fun t562 => (if y559.length + t562.length < 140737488355328 then (some (y559 ++ t562)) else (none)))) else (none)))) else ((some (([1] : List Int) : List Int)).bind fun y568 => ((r04_List.f k t532).bind fun t571 => (if y568.length + t571.length < 140737488355328 then ((some (y568 ++ t571 : List Int)).bind fun y574 => ((r02_Row.f k t537).bind fun t577 => (if y574.length + t577.length < 140737488355328 then (some (y574 ++ t577)) else (none)))) else (none)))))) else (none)) = some r := H
 have A6 := aM A60
 clear A60
 by_cases c7 : t547.length + t543.length < 140737488355328
 ·
  rw [if_pos c7] at H
  have LMc7 := aM c7
  clear c7
  obtain ⟨y550, hy550⟩ : ∃ y_ : List Int, y_ = (t547 ++ t543) := ⟨_, rfl⟩
  replace H : (if (y550.length : Int) < (t537.length : Int) then ((some (([2] : List Int) : List Int)).bind fun y553 => ((r04_List.f k t532).bind fun t556 => (if y553.length + t556.length < 140737488355328 then ((some (y553 ++ t556 : List Int)).bind fun y559 => ((r02_Row.f k y550).bind fun t562 => (if y559.length + t562.length < 140737488355328 then (some (y559 ++ t562)) else (none)))) else (none)))) else ((some (([1] : List Int) : List Int)).bind fun y568 => ((r04_List.f k t532).bind fun t571 => (if y568.length + t571.length < 140737488355328 then ((some (y568 ++ t571 : List Int)).bind fun y574 => ((r02_Row.f k t537).bind fun t577 => (if y574.length + t577.length < 140737488355328 then (some (y574 ++ t577)) else (none)))) else (none))))) = some r := by first | (rw [hy550]; with_reducible exact H) | (have H2_ := (Option.bind_some _ _).symm.trans H; rw [hy550]; with_reducible exact H2_) | (have H2_ := (Option.bind_some _ _).symm.trans H; with_reducible exact H2_) | with_reducible exact H | (rw [hy550]; exact H) | exact H
  have Ny550 := aM hy550
  clear hy550
  by_cases c8 : (y550.length : Int) < (t537.length : Int)
  ·
   rw [if_pos c8] at H
   have c8b0 : decide ((y550.length : Int) < (t537.length : Int)) = true := decide_eq_true c8
   have c8b1 : decide (y550.length < t537.length) = true := decide_eq_true (Int.ofNat_lt.mp c8)
   clear c8
   obtain ⟨y553, hy553⟩ : ∃ y_ : List Int, y_ = (([2] : List Int)) := ⟨_, rfl⟩
   replace H : ((r04_List.f k t532).bind fun t556 => (if y553.length + t556.length < 140737488355328 then ((some (y553 ++ t556 : List Int)).bind fun y559 => ((r02_Row.f k y550).bind fun t562 => (if y559.length + t562.length < 140737488355328 then (some (y559 ++ t562)) else (none)))) else (none))) = some r := by first | (rw [hy553]; with_reducible exact H) | (have H2_ := (Option.bind_some _ _).symm.trans H; rw [hy553]; with_reducible exact H2_) | (have H2_ := (Option.bind_some _ _).symm.trans H; with_reducible exact H2_) | with_reducible exact H | (rw [hy553]; exact H) | exact H
   have Ny553 := aM hy553
   clear hy553
   replace H := Option.bind_eq_some_iff.mp H
   obtain ⟨t556, A90, H⟩ := H
   replace H : (if y553.length + t556.length < 140737488355328 then ((some (y553 ++ t556 : List Int)).bind fun y559 => ((r02_Row.f k y550).bind fun t562 => (if y559.length + t562.length < 140737488355328 then (some (y559 ++ t562)) else (none)))) else (none)) = some r := H
   have A9 := aM A90
   clear A90
   by_cases c10 : y553.length + t556.length < 140737488355328
   ·
    rw [if_pos c10] at H
    have LMc10 := aM c10
    clear c10
    obtain ⟨y559, hy559⟩ : ∃ y_ : List Int, y_ = (y553 ++ t556) := ⟨_, rfl⟩
    replace H : ((r02_Row.f k y550).bind fun t562 => (if y559.length + t562.length < 140737488355328 then (some (y559 ++ t562)) else (none))) = some r := by first | (rw [hy559]; with_reducible exact H) | (have H2_ := (Option.bind_some _ _).symm.trans H; rw [hy559]; with_reducible exact H2_) | (have H2_ := (Option.bind_some _ _).symm.trans H; with_reducible exact H2_) | with_reducible exact H | (rw [hy559]; exact H) | exact H
    have Ny559 := aM hy559
    clear hy559
    replace H := Option.bind_eq_some_iff.mp H
    obtain ⟨t562, A110, H⟩ := H
    replace H : (if y559.length + t562.length < 140737488355328 then (some (y559 ++ t562)) else (none)) = some r := H
    have A11 := aM A110
    clear A110
    by_cases c12 : y559.length + t562.length < 140737488355328
    ·
     rw [if_pos c12] at H
     have LMc12 := aM c12
     clear c12
     obtain ⟨y565, hy565⟩ : ∃ y_ : List Int, y_ = (y559 ++ t562) := ⟨_, rfl⟩
     replace H : (some y565) = some r := by first | (rw [hy565]; with_reducible exact H) | (have H2_ := (Option.bind_some _ _).symm.trans H; rw [hy565]; with_reducible exact H2_) | (have H2_ := (Option.bind_some _ _).symm.trans H; with_reducible exact H2_) | with_reducible exact H | (rw [hy565]; exact H) | exact H
     have Ny565 := aM hy565
     clear hy565
     obtain rfl := Option.some.inj H
     go_enter Try.func12, Try.ntmps12
     go_wp2_with (first | ((with_reducible refine gate_callee (f := 24) rfl ?_); refine goesL_ (some 14) rfl rfl Try.func24 (by kernel_rfl) rfl #[.slice A0 l0.length c0] rfl (by (try simp only [List.map_toArray, List.map_cons, List.map_nil]); first | done | rfl | (simp only [List.length_drop, List.length_take]; rfl)) ?_; (with_reducible refine (r11_joined.calls k _ _ l0 t531 t532 _ ?side1 ?side2 A2.out).mono ?_); (case side1 => exact xC HR0.out); (case side2 => exact HC0.out); rintro e w13 ⟨v533, v535, rfl, ho0, ho1, hb⟩; refine ⟨_, rfl, ?_⟩; have n0_ := aM (Kd.R_lower ho0 (below_size (xB HB.out))); have n1_ := aM (Kd.R_lower ho1 (below_size (xB HB.out))); have n2_ := aM (below_step (xB HB.out) hb); clear HB; have HO534 := n0_; have HO536 := n1_; have HB := n2_; clear n0_ n1_ n2_; (try clear hb); (try clear hb2); (try clear hk); (try clear hi); (try clear ho0); (try clear ho1); obtain ⟨Ao14, co14, eo14⟩ := Kd.R_slice HO534.out; subst eo14) | ((with_reducible refine gate_callee (f := 25) rfl ?_); refine goesL_ (some 18) rfl rfl Try.func25 (by kernel_rfl) rfl #[.slice Ao14 t531.length co14] rfl (by (try simp only [List.map_toArray, List.map_cons, List.map_nil]); first | done | rfl | (simp only [List.length_drop, List.length_take]; rfl)) ?_; (with_reducible refine (r05_Pack.calls k _ _ t531 t537 _ ?side1 ?side2 A3.out).mono ?_); (case side1 => exact xC ((Kd.R_reads' HO534.out).2.2)); (case side2 => exact (Kd.R_reads' HO534.out).2.1); rintro e w15 ⟨v538, rfl, ho0, hb⟩; refine ⟨_, rfl, ?_⟩; have n0_ := aM (Kd.R_elder' (xR HO534.out) (Kd.R_base ho0) hb); have n1_ := aM (Kd.R_below (xR HO536.out) hb); have n2_ := aM (Kd.R_lower (Kd.R_new' ho0 (Kd.R_lt (xR HO534.out))) (below_size (xB HB.out))); have n3_ := aM (below_step (xB HB.out) hb); clear HO534; clear HO536; clear HB; have HO534 := n0_; have HO536 := n1_; have HO539 := n2_; have HB := n3_; clear n0_ n1_ n2_ n3_; (try clear hb); (try clear hb2); (try clear hk); (try clear hi); (try clear ho0)) | ((with_reducible refine gate_callee (f := 26) rfl ?_); refine goesL_ (some 20) rfl rfl Try.func26 (by kernel_rfl) rfl #[.slice A0 l0.length c0] rfl (by (try simp only [List.map_toArray, List.map_cons, List.map_nil]); first | done | rfl | (simp only [List.length_drop, List.length_take]; rfl)) ?_; (with_reducible refine (r06_Train.calls k _ _ l0 t540 _ ?side1 ?side2 A4.out).mono ?_); (case side1 => exact xC (Kd.C_below HR0.out HB.out)); (case side2 => exact HC0.out); rintro e w16 ⟨v541, rfl, ho0, hb⟩; refine ⟨_, rfl, ?_⟩; have n0_ := aM (Kd.R_below (xR HO534.out) hb); have n1_ := aM (Kd.R_below (xR HO536.out) hb); have n2_ := aM (Kd.R_below (xR HO539.out) hb); have n3_ := aM (Kd.R_lower ho0 (below_size (xB HB.out))); have n4_ := aM (below_step (xB HB.out) hb); clear HO534; clear HO536; clear HO539; clear HB; have HO534 := n0_; have HO536 := n1_; have HO539 := n2_; have HO542 := n3_; have HB := n4_; clear n0_ n1_ n2_ n3_ n4_; (try clear hb); (try clear hb2); (try clear hk); (try clear hi); (try clear ho0); obtain ⟨Ao17, co17, eo17⟩ := Kd.R_slice HO542.out; subst eo17) | ((with_reducible refine gate_callee (f := 27) rfl ?_); refine goesL_ (some 24) rfl rfl Try.func27 (by kernel_rfl) rfl #[.slice Ao17 t540.length co17, .slice Ao14 t531.length co14] rfl (by (try simp only [List.map_toArray, List.map_cons, List.map_nil]); first | done | rfl | (simp only [List.length_drop, List.length_take]; rfl)) ?_; (with_reducible refine (r06_Encode.calls k _ _ t540 _ _ t531 t543 t544 _ ?side1 ?side2 ?side3 ?side4 A5.out).mono ?_); (case side1 => exact xC ((Kd.R_reads' HO542.out).2.2)); (case side2 => exact (Kd.R_reads' HO542.out).2.1); (case side3 => exact xC ((Kd.R_reads' HO534.out).2.2)); (case side4 => exact (Kd.R_reads' HO534.out).2.1); rintro e w18 ⟨v545, rfl, ho0, hb⟩; refine ⟨_, rfl, ?_⟩; have n0_ := aM (Kd.R_elder' (xR HO534.out) (Kd.R_base ho0) hb); have n1_ := aM (Kd.R_below (xR HO536.out) hb); have n2_ := aM (Kd.R_elder' (xR HO539.out) (Kd.R_base ho0) hb); have n3_ := aM (Kd.R_below (xR HO542.out) hb); have n4_ := aM (Kd.R_lower (Kd.R_new' (Kd.R_new' ho0 (Kd.R_lt (xR HO534.out))) (Kd.R_lt (xR HO539.out))) (below_size (xB HB.out))); have n5_ := aM (below_step (xB HB.out) hb); clear HO534; clear HO536; clear HO539; clear HO542; clear HB; have HO534 := n0_; have HO536 := n1_; have HO539 := n2_; have HO542 := n3_; have HO546 := n4_; have HB := n5_; clear n0_ n1_ n2_ n3_ n4_ n5_; (try clear hb); (try clear hb2); (try clear hk); (try clear hi); (try clear ho0)) | ((with_reducible refine gate_callee (f := 28) rfl ?_); refine goesL_ (some 28) rfl rfl Try.func28 (by kernel_rfl) rfl #[.slice Ao17 t540.length co17] rfl (by (try simp only [List.map_toArray, List.map_cons, List.map_nil]); first | done | rfl | (simp only [List.length_drop, List.length_take]; rfl)) ?_; (with_reducible refine (r06_Table.calls k _ _ t540 t547 _ ?side1 ?side2 A6.out).mono ?_); (case side1 => exact xC ((Kd.R_reads' HO542.out).2.2)); (case side2 => exact (Kd.R_reads' HO542.out).2.1); rintro e w19 ⟨v548, rfl, ho0, hb⟩; refine ⟨_, rfl, ?_⟩; have n0_ := aM (Kd.R_elder' (xR HO534.out) (Kd.R_base ho0) hb); have n1_ := aM (Kd.R_below (xR HO536.out) hb); have n2_ := aM (Kd.R_elder' (xR HO539.out) (Kd.R_base ho0) hb); have n3_ := aM (Kd.R_below (xR HO542.out) hb); have n4_ := aM (Kd.R_elder' (xR HO546.out) (Kd.R_base ho0) hb); have n5_ := aM (Kd.R_lower (Kd.R_new' (Kd.R_new' (Kd.R_new' ho0 (Kd.R_lt (xR HO534.out))) (Kd.R_lt (xR HO539.out))) (Kd.R_lt (xR HO546.out))) (below_size (xB HB.out))); have n6_ := aM (below_step (xB HB.out) hb); clear HO534; clear HO536; clear HO539; clear HO542; clear HO546; clear HB; have HO534 := n0_; have HO536 := n1_; have HO539 := n2_; have HO542 := n3_; have HO546 := n4_; have HO549 := n5_; have HB := n6_; clear n0_ n1_ n2_ n3_ n4_ n5_ n6_; (try clear hb); (try clear hb2); (try clear hk); (try clear hi); (try clear ho0); obtain ⟨Ao21, co21, eo21⟩ := Kd.R_slice HO546.out; subst eo21) | ((with_reducible refine gate_builtin (b := .append) (xs := #[.tmp 28, .tmp 29]) rfl ?_); at_builtin; refine Kd.R_append_rows (Kd.int .u8) (w0 := w) w.heap.size rfl (.tmp 28) (.tmp 29) 22 5 (.int .u8 0) 1 rfl Try.underlying22 info5 rfl (by decide) (by omega) v548 t547 t543 _ _ _ (fun k_ => some k_ ≠ (.slice Ao14 t531.length co14 : Value).ownBlock ∧ some k_ ≠ (v538 : Value).ownBlock ∧ some k_ ≠ (.slice Ao21 t543.length co21 : Value).ownBlock) (fun _ => False) rfl rfl ?aO ?aR (fun _ _ h => h) (fun _ h => h.elim) ?aF ?aB ?aS ?aL ?_; (case aR => exact xC ((Kd.R_reads' HO546.out).2.2)); (case aB => exact (xB HB.out)); (case aF => exact (fun k_ hk => ⟨Kd.fresh' (Kd.R_lt (xR HO534.out)) k_ hk, Kd.fresh' (Kd.R_lt (xR HO539.out)) k_ hk, Kd.fresh' (Kd.R_lt (xR HO546.out)) k_ hk⟩)); (case aO => exact (by (with_reducible repeat (first | apply Kd.R_alloc | apply Kd.R_drewN | apply Kd.R_drew)); exact Kd.R_mono HO549.out (fun _ hk => ⟨hk.1.1.2, ⟨hk.1.2, hk.2⟩⟩))); (case aS => exact (below_size (xB HB.out))); (case aL => have := LMc7.out; omega); intro v551 w20 ho hb hg hat; rw [← Ny550.out] at ho; have n0_ := aM (Kd.R_after (ok := (fun k_ => some k_ ≠ (v538 : Value).ownBlock ∧ some k_ ≠ (.slice Ao21 t543.length co21 : Value).ownBlock)) (by (with_reducible repeat (first | apply Kd.R_alloc | apply Kd.R_drewN | apply Kd.R_drew)); exact Kd.R_mono HO534.out (fun _ hk => ⟨⟨hk.1.1.2, hk.1.2⟩, hk.2⟩)) hg hat); have n1_ := aM (Kd.R_over' (xR HO536.out) (Kd.R_typed (xR HO549.out)) (by decide) hg); have n2_ := aM (Kd.R_after (ok := (fun k_ => some k_ ≠ (.slice Ao14 t531.length co14 : Value).ownBlock ∧ some k_ ≠ (.slice Ao21 t543.length co21 : Value).ownBlock)) (by (with_reducible repeat (first | apply Kd.R_alloc | apply Kd.R_drewN | apply Kd.R_drew)); exact Kd.R_mono HO539.out (fun _ hk => ⟨⟨hk.1.1.2, hk.1.2⟩, hk.2⟩)) hg hat); have n3_ := aM (Kd.R_over' (xR HO542.out) (Kd.R_typed (xR HO549.out)) (by decide) hg); have n4_ := aM (Kd.R_after (ok := (fun k_ => some k_ ≠ (.slice Ao14 t531.length co14 : Value).ownBlock ∧ some k_ ≠ (v538 : Value).ownBlock)) (by (with_reducible repeat (first | apply Kd.R_alloc | apply Kd.R_drewN | apply Kd.R_drew)); exact Kd.R_mono HO546.out (fun _ hk => ⟨⟨hk.1.1.2, hk.1.2⟩, hk.2⟩)) hg hat); have n5_ := aM (hb); have n6_ := aM (ho); clear HO534; clear HO536; clear HO539; clear HO542; clear HO546; clear HB; clear HO549; have HO534 := n0_; have HO536 := n1_; have HO539 := n2_; have HO542 := n3_; have HO546 := n4_; have HB := n5_; have HO552 := n6_; clear n0_ n1_ n2_ n3_ n4_ n5_ n6_; clear ho hb hg hat; obtain ⟨Ao22, co22, eo22⟩ := Kd.R_slice HO552.out; subst eo22; obtain ⟨Ao23, co23, eo23⟩ := Kd.R_slice HO539.out; subst eo23) | ((with_reducible refine gate_dst (N := 38) rfl ?_); refine Kd.R_lit (Kd.int .u8) _ 5 ?hg (N := 38) ?hd (xs := ([2] : List Int)) (inner := [.int .u8 2]) (ok := fun _ => True) (okp := fun _ => True) ?hr ?hp (fun _ hk => hk) trivial (Below.refl _ _) (Nat.le_refl _) (by simp) ?_; (case hd => rfl); (case hg => rfl); (case hr => first | (go_simp; done) | (go_simp; rfl)); (case hp => exact (Reps.one (show Kd.M (Kd.int .u8) _ _ _ 2 [.int .u8 2] from rfl) (Reps.none _ _))); intro v554 w24 ho25 hb hg_ hnew_; clear hg_ hnew_; (first | rw [← Ny553.out] at ho25 | (simp only [Int.reduceToNat] at ho25; rw [← Ny553.out] at ho25)); have n0_ := aM (Kd.R_elder' (xR HO534.out) (Kd.R_base ho25) hb); have n1_ := aM (Kd.R_below (xR HO536.out) hb); have n2_ := aM (Kd.R_elder' (xR HO539.out) (Kd.R_base ho25) hb); have n3_ := aM (Kd.R_below (xR HO542.out) hb); have n4_ := aM (Kd.R_elder' (xR HO546.out) (Kd.R_base ho25) hb); have n5_ := aM (Kd.R_elder' (xR HO552.out) (Kd.R_base ho25) hb); have n6_ := aM (Kd.R_lower (Kd.R_new' (Kd.R_new' (Kd.R_new' (Kd.R_new' ho25 (Kd.R_lt (xR HO534.out))) (Kd.R_lt (xR HO539.out))) (Kd.R_lt (xR HO546.out))) (Kd.R_lt (xR HO552.out))) (below_size (xB HB.out))); have n7_ := aM (below_step (xB HB.out) hb); clear HO534; clear HO536; clear HO539; clear HO542; clear HO546; clear HO552; clear HB; have HO534 := n0_; have HO536 := n1_; have HO539 := n2_; have HO542 := n3_; have HO546 := n4_; have HO552 := n5_; have HO555 := n6_; have HB := n7_; clear n0_ n1_ n2_ n3_ n4_ n5_ n6_ n7_; clear hb ho25; obtain ⟨Ao26, co26, eo26⟩ := Kd.R_slice HO536.out; subst eo26) | ((with_reducible refine gate_callee (f := 29) rfl ?_); refine goesL_ (some 40) rfl rfl Try.func29 (by kernel_rfl) rfl #[.slice Ao26 t532.length co26] rfl (by (try simp only [List.map_toArray, List.map_cons, List.map_nil]); first | done | rfl | (simp only [List.length_drop, List.length_take]; rfl)) ?_; (with_reducible refine (r04_List.calls k _ _ t532 t556 _ ?side1 ?side2 A9.out).mono ?_); (case side1 => exact xC ((Kd.R_reads' HO536.out).2.2)); (case side2 => exact (Kd.R_reads' HO536.out).2.1); rintro e w27 ⟨v557, rfl, ho0, hb⟩; refine ⟨_, rfl, ?_⟩; have n0_ := aM (Kd.R_elder' (xR HO534.out) (Kd.R_base ho0) hb); have n1_ := aM (Kd.R_below (xR HO536.out) hb); have n2_ := aM (Kd.R_elder' (xR HO539.out) (Kd.R_base ho0) hb); have n3_ := aM (Kd.R_below (xR HO542.out) hb); have n4_ := aM (Kd.R_elder' (xR HO546.out) (Kd.R_base ho0) hb); have n5_ := aM (Kd.R_elder' (xR HO552.out) (Kd.R_base ho0) hb); have n6_ := aM (Kd.R_elder' (xR HO555.out) (Kd.R_base ho0) hb); have n7_ := aM (Kd.R_lower (Kd.R_new' (Kd.R_new' (Kd.R_new' (Kd.R_new' (Kd.R_new' ho0 (Kd.R_lt (xR HO534.out))) (Kd.R_lt (xR HO539.out))) (Kd.R_lt (xR HO546.out))) (Kd.R_lt (xR HO552.out))) (Kd.R_lt (xR HO555.out))) (below_size (xB HB.out))); have n8_ := aM (below_step (xB HB.out) hb); clear HO534; clear HO536; clear HO539; clear HO542; clear HO546; clear HO552; clear HO555; clear HB; have HO534 := n0_; have HO536 := n1_; have HO539 := n2_; have HO542 := n3_; have HO546 := n4_; have HO552 := n5_; have HO555 := n6_; have HO558 := n7_; have HB := n8_; clear n0_ n1_ n2_ n3_ n4_ n5_ n6_ n7_ n8_; (try clear hb); (try clear hb2); (try clear hk); (try clear hi); (try clear ho0); obtain ⟨Ao29, co29, eo29⟩ := Kd.R_slice HO558.out; subst eo29) | ((with_reducible refine gate_builtin (b := .append) (xs := #[.tmp 38, .tmp 40]) rfl ?_); at_builtin; refine Kd.R_append_rows (Kd.int .u8) (w0 := w) w.heap.size rfl (.tmp 38) (.tmp 40) 22 5 (.int .u8 0) 1 rfl Try.underlying22 info5 rfl (by decide) (by omega) v554 y553 t556 _ _ _ (fun k_ => some k_ ≠ (.slice Ao14 t531.length co14 : Value).ownBlock ∧ some k_ ≠ (.slice Ao23 t537.length co23 : Value).ownBlock ∧ some k_ ≠ (.slice Ao21 t543.length co21 : Value).ownBlock ∧ some k_ ≠ (.slice Ao22 y550.length co22 : Value).ownBlock ∧ some k_ ≠ (.slice Ao29 t556.length co29 : Value).ownBlock) (fun _ => False) rfl rfl ?aO ?aR (fun _ _ h => h) (fun _ h => h.elim) ?aF ?aB ?aS ?aL ?_; (case aR => exact xC ((Kd.R_reads' HO558.out).2.2)); (case aB => exact (xB HB.out)); (case aF => exact (fun k_ hk => ⟨Kd.fresh' (Kd.R_lt (xR HO534.out)) k_ hk, Kd.fresh' (Kd.R_lt (xR HO539.out)) k_ hk, Kd.fresh' (Kd.R_lt (xR HO546.out)) k_ hk, Kd.fresh' (Kd.R_lt (xR HO552.out)) k_ hk, Kd.fresh' (Kd.R_lt (xR HO558.out)) k_ hk⟩)); (case aO => exact (by (with_reducible repeat (first | apply Kd.R_alloc | apply Kd.R_drewN | apply Kd.R_drew)); exact Kd.R_mono HO555.out (fun _ hk => ⟨hk.1.1.1.1.2, ⟨hk.1.1.1.2, ⟨hk.1.1.2, ⟨hk.1.2, hk.2⟩⟩⟩⟩))); (case aS => exact (below_size (xB HB.out))); (case aL => have := LMc10.out; omega); intro v560 w28 ho hb hg hat; rw [← Ny559.out] at ho; have n0_ := aM (Kd.R_after (ok := (fun k_ => some k_ ≠ (.slice Ao23 t537.length co23 : Value).ownBlock ∧ some k_ ≠ (.slice Ao21 t543.length co21 : Value).ownBlock ∧ some k_ ≠ (.slice Ao22 y550.length co22 : Value).ownBlock ∧ some k_ ≠ (.slice Ao29 t556.length co29 : Value).ownBlock)) (by (with_reducible repeat (first | apply Kd.R_alloc | apply Kd.R_drewN | apply Kd.R_drew)); exact Kd.R_mono HO534.out (fun _ hk => ⟨⟨hk.1.1.1.1, ⟨hk.1.1.1.2, ⟨hk.1.1.2, hk.2⟩⟩⟩, hk.1.2⟩)) hg hat); have n1_ := aM (Kd.R_over' (xR HO536.out) (Kd.R_typed (xR HO555.out)) (by decide) hg); have n2_ := aM (Kd.R_after (ok := (fun k_ => some k_ ≠ (.slice Ao14 t531.length co14 : Value).ownBlock ∧ some k_ ≠ (.slice Ao21 t543.length co21 : Value).ownBlock ∧ some k_ ≠ (.slice Ao22 y550.length co22 : Value).ownBlock ∧ some k_ ≠ (.slice Ao29 t556.length co29 : Value).ownBlock)) (by (with_reducible repeat (first | apply Kd.R_alloc | apply Kd.R_drewN | apply Kd.R_drew)); exact Kd.R_mono HO539.out (fun _ hk => ⟨⟨hk.1.1.1.1, ⟨hk.1.1.1.2, ⟨hk.1.1.2, hk.2⟩⟩⟩, hk.1.2⟩)) hg hat); have n3_ := aM (Kd.R_over' (xR HO542.out) (Kd.R_typed (xR HO555.out)) (by decide) hg); have n4_ := aM (Kd.R_after (ok := (fun k_ => some k_ ≠ (.slice Ao14 t531.length co14 : Value).ownBlock ∧ some k_ ≠ (.slice Ao23 t537.length co23 : Value).ownBlock ∧ some k_ ≠ (.slice Ao22 y550.length co22 : Value).ownBlock ∧ some k_ ≠ (.slice Ao29 t556.length co29 : Value).ownBlock)) (by (with_reducible repeat (first | apply Kd.R_alloc | apply Kd.R_drewN | apply Kd.R_drew)); exact Kd.R_mono HO546.out (fun _ hk => ⟨⟨hk.1.1.1.1, ⟨hk.1.1.1.2, ⟨hk.1.1.2, hk.2⟩⟩⟩, hk.1.2⟩)) hg hat); have n5_ := aM (Kd.R_after (ok := (fun k_ => some k_ ≠ (.slice Ao14 t531.length co14 : Value).ownBlock ∧ some k_ ≠ (.slice Ao23 t537.length co23 : Value).ownBlock ∧ some k_ ≠ (.slice Ao21 t543.length co21 : Value).ownBlock ∧ some k_ ≠ (.slice Ao29 t556.length co29 : Value).ownBlock)) (by (with_reducible repeat (first | apply Kd.R_alloc | apply Kd.R_drewN | apply Kd.R_drew)); exact Kd.R_mono HO552.out (fun _ hk => ⟨⟨hk.1.1.1, ⟨hk.1.1.2.1, ⟨hk.1.1.2.2, hk.2⟩⟩⟩, hk.1.2⟩)) hg hat); have n6_ := aM (Kd.R_after (ok := (fun k_ => some k_ ≠ (.slice Ao14 t531.length co14 : Value).ownBlock ∧ some k_ ≠ (.slice Ao23 t537.length co23 : Value).ownBlock ∧ some k_ ≠ (.slice Ao21 t543.length co21 : Value).ownBlock ∧ some k_ ≠ (.slice Ao22 y550.length co22 : Value).ownBlock)) (by (with_reducible repeat (first | apply Kd.R_alloc | apply Kd.R_drewN | apply Kd.R_drew)); exact Kd.R_mono HO558.out (fun _ hk => ⟨⟨hk.1.1.1.1.2, ⟨hk.1.1.1.2, ⟨hk.1.1.2, hk.1.2⟩⟩⟩, hk.2⟩)) hg hat); have n7_ := aM (hb); have n8_ := aM (ho); clear HO534; clear HO536; clear HO539; clear HO542; clear HO546; clear HO552; clear HO558; clear HB; clear HO555; have HO534 := n0_; have HO536 := n1_; have HO539 := n2_; have HO542 := n3_; have HO546 := n4_; have HO552 := n5_; have HO558 := n6_; have HB := n7_; have HO561 := n8_; clear n0_ n1_ n2_ n3_ n4_ n5_ n6_ n7_ n8_; clear ho hb hg hat) | ((with_reducible refine gate_callee (f := 30) rfl ?_); refine goesL_ (some 44) rfl rfl Try.func30 (by kernel_rfl) rfl #[.slice Ao22 y550.length co22] rfl (by (try simp only [List.map_toArray, List.map_cons, List.map_nil]); first | done | rfl | (simp only [List.length_drop, List.length_take]; rfl)) ?_; (with_reducible refine (r02_Row.calls k _ _ y550 t562 _ ?side1 ?side2 A11.out).mono ?_); (case side1 => exact xC ((Kd.R_reads' HO552.out).2.2)); (case side2 => exact (Kd.R_reads' HO552.out).2.1); rintro e w30 ⟨v563, rfl, ho0, hb⟩; refine ⟨_, rfl, ?_⟩; have n0_ := aM (Kd.R_elder' (xR HO534.out) (Kd.R_base ho0) hb); have n1_ := aM (Kd.R_below (xR HO536.out) hb); have n2_ := aM (Kd.R_elder' (xR HO539.out) (Kd.R_base ho0) hb); have n3_ := aM (Kd.R_below (xR HO542.out) hb); have n4_ := aM (Kd.R_elder' (xR HO546.out) (Kd.R_base ho0) hb); have n5_ := aM (Kd.R_elder' (xR HO552.out) (Kd.R_base ho0) hb); have n6_ := aM (Kd.R_elder' (xR HO558.out) (Kd.R_base ho0) hb); have n7_ := aM (Kd.R_elder' (xR HO561.out) (Kd.R_base ho0) hb); have n8_ := aM (Kd.R_lower (Kd.R_new' (Kd.R_new' (Kd.R_new' (Kd.R_new' (Kd.R_new' (Kd.R_new' ho0 (Kd.R_lt (xR HO534.out))) (Kd.R_lt (xR HO539.out))) (Kd.R_lt (xR HO546.out))) (Kd.R_lt (xR HO552.out))) (Kd.R_lt (xR HO558.out))) (Kd.R_lt (xR HO561.out))) (below_size (xB HB.out))); have n9_ := aM (below_step (xB HB.out) hb); clear HO534; clear HO536; clear HO539; clear HO542; clear HO546; clear HO552; clear HO558; clear HO561; clear HB; have HO534 := n0_; have HO536 := n1_; have HO539 := n2_; have HO542 := n3_; have HO546 := n4_; have HO552 := n5_; have HO558 := n6_; have HO561 := n7_; have HO564 := n8_; have HB := n9_; clear n0_ n1_ n2_ n3_ n4_ n5_ n6_ n7_ n8_ n9_; (try clear hb); (try clear hb2); (try clear hk); (try clear hi); (try clear ho0); obtain ⟨Ao32, co32, eo32⟩ := Kd.R_slice HO564.out; subst eo32) | ((with_reducible refine gate_builtin (b := .append) (xs := #[.tmp 42, .tmp 44]) rfl ?_); at_builtin; refine Kd.R_append_rows (Kd.int .u8) (w0 := w) w.heap.size rfl (.tmp 42) (.tmp 44) 22 5 (.int .u8 0) 1 rfl Try.underlying22 info5 rfl (by decide) (by omega) v560 y559 t562 _ _ _ (fun k_ => some k_ ≠ (.slice Ao14 t531.length co14 : Value).ownBlock ∧ some k_ ≠ (.slice Ao23 t537.length co23 : Value).ownBlock ∧ some k_ ≠ (.slice Ao21 t543.length co21 : Value).ownBlock ∧ some k_ ≠ (.slice Ao22 y550.length co22 : Value).ownBlock ∧ some k_ ≠ (.slice Ao29 t556.length co29 : Value).ownBlock ∧ some k_ ≠ (.slice Ao32 t562.length co32 : Value).ownBlock) (fun _ => False) rfl rfl ?aO ?aR (fun _ _ h => h) (fun _ h => h.elim) ?aF ?aB ?aS ?aL ?_; (case aR => exact xC ((Kd.R_reads' HO564.out).2.2)); (case aB => exact (xB HB.out)); (case aF => exact (fun k_ hk => ⟨Kd.fresh' (Kd.R_lt (xR HO534.out)) k_ hk, Kd.fresh' (Kd.R_lt (xR HO539.out)) k_ hk, Kd.fresh' (Kd.R_lt (xR HO546.out)) k_ hk, Kd.fresh' (Kd.R_lt (xR HO552.out)) k_ hk, Kd.fresh' (Kd.R_lt (xR HO558.out)) k_ hk, Kd.fresh' (Kd.R_lt (xR HO564.out)) k_ hk⟩)); (case aO => exact (by (with_reducible repeat (first | apply Kd.R_alloc | apply Kd.R_drewN | apply Kd.R_drew)); exact Kd.R_mono HO561.out (fun _ hk => ⟨hk.1.1, ⟨hk.1.2.1, ⟨hk.1.2.2.1, ⟨hk.1.2.2.2.1, ⟨hk.1.2.2.2.2, hk.2⟩⟩⟩⟩⟩))); (case aS => exact (below_size (xB HB.out))); (case aL => have := LMc12.out; omega); intro v566 w31 ho hb hg hat; rw [← Ny565.out] at ho; have n0_ := aM (Kd.R_after (ok := (fun k_ => some k_ ≠ (.slice Ao23 t537.length co23 : Value).ownBlock ∧ some k_ ≠ (.slice Ao21 t543.length co21 : Value).ownBlock ∧ some k_ ≠ (.slice Ao22 y550.length co22 : Value).ownBlock ∧ some k_ ≠ (.slice Ao29 t556.length co29 : Value).ownBlock ∧ some k_ ≠ (.slice Ao32 t562.length co32 : Value).ownBlock)) (by (with_reducible repeat (first | apply Kd.R_alloc | apply Kd.R_drewN | apply Kd.R_drew)); exact Kd.R_mono HO534.out (fun _ hk => ⟨⟨hk.1.1.1, ⟨hk.1.1.2.1, ⟨hk.1.1.2.2.1, ⟨hk.1.1.2.2.2, hk.2⟩⟩⟩⟩, hk.1.2⟩)) hg hat); have n1_ := aM (Kd.R_over' (xR HO536.out) (Kd.R_typed (xR HO561.out)) (by decide) hg); have n2_ := aM (Kd.R_after (ok := (fun k_ => some k_ ≠ (.slice Ao14 t531.length co14 : Value).ownBlock ∧ some k_ ≠ (.slice Ao21 t543.length co21 : Value).ownBlock ∧ some k_ ≠ (.slice Ao22 y550.length co22 : Value).ownBlock ∧ some k_ ≠ (.slice Ao29 t556.length co29 : Value).ownBlock ∧ some k_ ≠ (.slice Ao32 t562.length co32 : Value).ownBlock)) (by (with_reducible repeat (first | apply Kd.R_alloc | apply Kd.R_drewN | apply Kd.R_drew)); exact Kd.R_mono HO539.out (fun _ hk => ⟨⟨hk.1.1.1, ⟨hk.1.1.2.1, ⟨hk.1.1.2.2.1, ⟨hk.1.1.2.2.2, hk.2⟩⟩⟩⟩, hk.1.2⟩)) hg hat); have n3_ := aM (Kd.R_over' (xR HO542.out) (Kd.R_typed (xR HO561.out)) (by decide) hg); have n4_ := aM (Kd.R_after (ok := (fun k_ => some k_ ≠ (.slice Ao14 t531.length co14 : Value).ownBlock ∧ some k_ ≠ (.slice Ao23 t537.length co23 : Value).ownBlock ∧ some k_ ≠ (.slice Ao22 y550.length co22 : Value).ownBlock ∧ some k_ ≠ (.slice Ao29 t556.length co29 : Value).ownBlock ∧ some k_ ≠ (.slice Ao32 t562.length co32 : Value).ownBlock)) (by (with_reducible repeat (first | apply Kd.R_alloc | apply Kd.R_drewN | apply Kd.R_drew)); exact Kd.R_mono HO546.out (fun _ hk => ⟨⟨hk.1.1.1, ⟨hk.1.1.2.1, ⟨hk.1.1.2.2.1, ⟨hk.1.1.2.2.2, hk.2⟩⟩⟩⟩, hk.1.2⟩)) hg hat); have n5_ := aM (Kd.R_after (ok := (fun k_ => some k_ ≠ (.slice Ao14 t531.length co14 : Value).ownBlock ∧ some k_ ≠ (.slice Ao23 t537.length co23 : Value).ownBlock ∧ some k_ ≠ (.slice Ao21 t543.length co21 : Value).ownBlock ∧ some k_ ≠ (.slice Ao29 t556.length co29 : Value).ownBlock ∧ some k_ ≠ (.slice Ao32 t562.length co32 : Value).ownBlock)) (by (with_reducible repeat (first | apply Kd.R_alloc | apply Kd.R_drewN | apply Kd.R_drew)); exact Kd.R_mono HO552.out (fun _ hk => ⟨⟨hk.1.1.1, ⟨hk.1.1.2.1, ⟨hk.1.1.2.2.1, ⟨hk.1.1.2.2.2, hk.2⟩⟩⟩⟩, hk.1.2⟩)) hg hat); have n6_ := aM (Kd.R_after (ok := (fun k_ => some k_ ≠ (.slice Ao14 t531.length co14 : Value).ownBlock ∧ some k_ ≠ (.slice Ao23 t537.length co23 : Value).ownBlock ∧ some k_ ≠ (.slice Ao21 t543.length co21 : Value).ownBlock ∧ some k_ ≠ (.slice Ao22 y550.length co22 : Value).ownBlock ∧ some k_ ≠ (.slice Ao32 t562.length co32 : Value).ownBlock)) (by (with_reducible repeat (first | apply Kd.R_alloc | apply Kd.R_drewN | apply Kd.R_drew)); exact Kd.R_mono HO558.out (fun _ hk => ⟨⟨hk.1.1.1, ⟨hk.1.1.2.1, ⟨hk.1.1.2.2.1, ⟨hk.1.1.2.2.2, hk.2⟩⟩⟩⟩, hk.1.2⟩)) hg hat); have n7_ := aM (Kd.R_after (ok := (fun k_ => some k_ ≠ (.slice Ao14 t531.length co14 : Value).ownBlock ∧ some k_ ≠ (.slice Ao23 t537.length co23 : Value).ownBlock ∧ some k_ ≠ (.slice Ao21 t543.length co21 : Value).ownBlock ∧ some k_ ≠ (.slice Ao22 y550.length co22 : Value).ownBlock ∧ some k_ ≠ (.slice Ao29 t556.length co29 : Value).ownBlock)) (by (with_reducible repeat (first | apply Kd.R_alloc | apply Kd.R_drewN | apply Kd.R_drew)); exact Kd.R_mono HO564.out (fun _ hk => ⟨⟨hk.1.1.1.1.1.2, ⟨hk.1.1.1.1.2, ⟨hk.1.1.1.2, ⟨hk.1.1.2, hk.1.2⟩⟩⟩⟩, hk.2⟩)) hg hat); have n8_ := aM (hb); have n9_ := aM (ho); clear HO534; clear HO536; clear HO539; clear HO542; clear HO546; clear HO552; clear HO558; clear HO564; clear HB; clear HO561; have HO534 := n0_; have HO536 := n1_; have HO539 := n2_; have HO542 := n3_; have HO546 := n4_; have HO552 := n5_; have HO558 := n6_; have HO564 := n7_; have HB := n8_; have HO567 := n9_; clear n0_ n1_ n2_ n3_ n4_ n5_ n6_ n7_ n8_ n9_; clear ho hb hg hat))
     go_ret
     exact ⟨_, by first | rfl | (simp [errW_none, errW_some] <;> rfl) | (simp [*, errW_none, errW_some] <;> rfl), by (with_reducible repeat (first | apply Kd.R_alloc | apply Kd.R_drewN | apply Kd.R_drew)); exact Kd.R_mono HO567.out (fun _ hk => trivial), xB HB.out⟩
    ·
     rw [if_neg c12] at H
     exact absurd H (by simp)
   ·
    rw [if_neg c10] at H
    exact absurd H (by simp)
  ·
   rw [if_neg c8] at H
   have c8b0 : decide ((y550.length : Int) < (t537.length : Int)) = false := decide_eq_false c8
   have c8b1 : decide (y550.length < t537.length) = false := decide_eq_false (fun h => c8 (Int.ofNat_lt.mpr h))
   clear c8
   obtain ⟨y568, hy568⟩ : ∃ y_ : List Int, y_ = (([1] : List Int)) := ⟨_, rfl⟩
   replace H : ((r04_List.f k t532).bind fun t571 => (if y568.length + t571.length < 140737488355328 then ((some (y568 ++ t571 : List Int)).bind fun y574 => ((r02_Row.f k t537).bind fun t577 => (if y574.length + t577.length < 140737488355328 then (some (y574 ++ t577)) else (none)))) else (none))) = some r := by first | (rw [hy568]; with_reducible exact H) | (have H2_ := (Option.bind_some _ _).symm.trans H; rw [hy568]; with_reducible exact H2_) | (have H2_ := (Option.bind_some _ _).symm.trans H; with_reducible exact H2_) | with_reducible exact H | (rw [hy568]; exact H) | exact H
   have Ny568 := aM hy568
   clear hy568
   replace H := Option.bind_eq_some_iff.mp H
   obtain ⟨t571, A330, H⟩ := H
   replace H : (if y568.length + t571.length < 140737488355328 then ((some (y568 ++ t571 : List Int)).bind fun y574 => ((r02_Row.f k t537).bind fun t577 => (if y574.length + t577.length < 140737488355328 then (some (y574 ++ t577)) else (none)))) else (none)) = some r := H
   have A33 := aM A330
   clear A330
   by_cases c34 : y568.length + t571.length < 140737488355328
   ·
    rw [if_pos c34] at H
    have LMc34 := aM c34
    clear c34
    obtain ⟨y574, hy574⟩ : ∃ y_ : List Int, y_ = (y568 ++ t571) := ⟨_, rfl⟩
    replace H : ((r02_Row.f k t537).bind fun t577 => (if y574.length + t577.length < 140737488355328 then (some (y574 ++ t577)) else (none))) = some r := by first | (rw [hy574]; with_reducible exact H) | (have H2_ := (Option.bind_some _ _).symm.trans H; rw [hy574]; with_reducible exact H2_) | (have H2_ := (Option.bind_some _ _).symm.trans H; with_reducible exact H2_) | with_reducible exact H | (rw [hy574]; exact H) | exact H
    have Ny574 := aM hy574
    clear hy574
    replace H := Option.bind_eq_some_iff.mp H
    obtain ⟨t577, A350, H⟩ := H
    replace H : (if y574.length + t577.length < 140737488355328 then (some (y574 ++ t577)) else (none)) = some r := H
    have A35 := aM A350
    clear A350
    by_cases c36 : y574.length + t577.length < 140737488355328
    ·
     rw [if_pos c36] at H
     have LMc36 := aM c36
     clear c36
     obtain ⟨y580, hy580⟩ : ∃ y_ : List Int, y_ = (y574 ++ t577) := ⟨_, rfl⟩
     replace H : (some y580) = some r := by first | (rw [hy580]; with_reducible exact H) | (have H2_ := (Option.bind_some _ _).symm.trans H; rw [hy580]; with_reducible exact H2_) | (have H2_ := (Option.bind_some _ _).symm.trans H; with_reducible exact H2_) | with_reducible exact H | (rw [hy580]; exact H) | exact H
     have Ny580 := aM hy580
     clear hy580
     obtain rfl := Option.some.inj H
     go_enter Try.func12, Try.ntmps12
     go_wp2_with (first | ((with_reducible refine gate_callee (f := 24) rfl ?_); refine goesL_ (some 14) rfl rfl Try.func24 (by kernel_rfl) rfl #[.slice A0 l0.length c0] rfl (by (try simp only [List.map_toArray, List.map_cons, List.map_nil]); first | done | rfl | (simp only [List.length_drop, List.length_take]; rfl)) ?_; (with_reducible refine (r11_joined.calls k _ _ l0 t531 t532 _ ?side1 ?side2 A2.out).mono ?_); (case side1 => exact xC HR0.out); (case side2 => exact HC0.out); rintro e w37 ⟨v533, v535, rfl, ho0, ho1, hb⟩; refine ⟨_, rfl, ?_⟩; have n0_ := aM (Kd.R_lower ho0 (below_size (xB HB.out))); have n1_ := aM (Kd.R_lower ho1 (below_size (xB HB.out))); have n2_ := aM (below_step (xB HB.out) hb); clear HB; have HO534 := n0_; have HO536 := n1_; have HB := n2_; clear n0_ n1_ n2_; (try clear hb); (try clear hb2); (try clear hk); (try clear hi); (try clear ho0); (try clear ho1); obtain ⟨Ao38, co38, eo38⟩ := Kd.R_slice HO534.out; subst eo38) | ((with_reducible refine gate_callee (f := 25) rfl ?_); refine goesL_ (some 18) rfl rfl Try.func25 (by kernel_rfl) rfl #[.slice Ao38 t531.length co38] rfl (by (try simp only [List.map_toArray, List.map_cons, List.map_nil]); first | done | rfl | (simp only [List.length_drop, List.length_take]; rfl)) ?_; (with_reducible refine (r05_Pack.calls k _ _ t531 t537 _ ?side1 ?side2 A3.out).mono ?_); (case side1 => exact xC ((Kd.R_reads' HO534.out).2.2)); (case side2 => exact (Kd.R_reads' HO534.out).2.1); rintro e w39 ⟨v538, rfl, ho0, hb⟩; refine ⟨_, rfl, ?_⟩; have n0_ := aM (Kd.R_elder' (xR HO534.out) (Kd.R_base ho0) hb); have n1_ := aM (Kd.R_below (xR HO536.out) hb); have n2_ := aM (Kd.R_lower (Kd.R_new' ho0 (Kd.R_lt (xR HO534.out))) (below_size (xB HB.out))); have n3_ := aM (below_step (xB HB.out) hb); clear HO534; clear HO536; clear HB; have HO534 := n0_; have HO536 := n1_; have HO539 := n2_; have HB := n3_; clear n0_ n1_ n2_ n3_; (try clear hb); (try clear hb2); (try clear hk); (try clear hi); (try clear ho0)) | ((with_reducible refine gate_callee (f := 26) rfl ?_); refine goesL_ (some 20) rfl rfl Try.func26 (by kernel_rfl) rfl #[.slice A0 l0.length c0] rfl (by (try simp only [List.map_toArray, List.map_cons, List.map_nil]); first | done | rfl | (simp only [List.length_drop, List.length_take]; rfl)) ?_; (with_reducible refine (r06_Train.calls k _ _ l0 t540 _ ?side1 ?side2 A4.out).mono ?_); (case side1 => exact xC (Kd.C_below HR0.out HB.out)); (case side2 => exact HC0.out); rintro e w40 ⟨v541, rfl, ho0, hb⟩; refine ⟨_, rfl, ?_⟩; have n0_ := aM (Kd.R_below (xR HO534.out) hb); have n1_ := aM (Kd.R_below (xR HO536.out) hb); have n2_ := aM (Kd.R_below (xR HO539.out) hb); have n3_ := aM (Kd.R_lower ho0 (below_size (xB HB.out))); have n4_ := aM (below_step (xB HB.out) hb); clear HO534; clear HO536; clear HO539; clear HB; have HO534 := n0_; have HO536 := n1_; have HO539 := n2_; have HO542 := n3_; have HB := n4_; clear n0_ n1_ n2_ n3_ n4_; (try clear hb); (try clear hb2); (try clear hk); (try clear hi); (try clear ho0); obtain ⟨Ao41, co41, eo41⟩ := Kd.R_slice HO542.out; subst eo41) | ((with_reducible refine gate_callee (f := 27) rfl ?_); refine goesL_ (some 24) rfl rfl Try.func27 (by kernel_rfl) rfl #[.slice Ao41 t540.length co41, .slice Ao38 t531.length co38] rfl (by (try simp only [List.map_toArray, List.map_cons, List.map_nil]); first | done | rfl | (simp only [List.length_drop, List.length_take]; rfl)) ?_; (with_reducible refine (r06_Encode.calls k _ _ t540 _ _ t531 t543 t544 _ ?side1 ?side2 ?side3 ?side4 A5.out).mono ?_); (case side1 => exact xC ((Kd.R_reads' HO542.out).2.2)); (case side2 => exact (Kd.R_reads' HO542.out).2.1); (case side3 => exact xC ((Kd.R_reads' HO534.out).2.2)); (case side4 => exact (Kd.R_reads' HO534.out).2.1); rintro e w42 ⟨v545, rfl, ho0, hb⟩; refine ⟨_, rfl, ?_⟩; have n0_ := aM (Kd.R_elder' (xR HO534.out) (Kd.R_base ho0) hb); have n1_ := aM (Kd.R_below (xR HO536.out) hb); have n2_ := aM (Kd.R_elder' (xR HO539.out) (Kd.R_base ho0) hb); have n3_ := aM (Kd.R_below (xR HO542.out) hb); have n4_ := aM (Kd.R_lower (Kd.R_new' (Kd.R_new' ho0 (Kd.R_lt (xR HO534.out))) (Kd.R_lt (xR HO539.out))) (below_size (xB HB.out))); have n5_ := aM (below_step (xB HB.out) hb); clear HO534; clear HO536; clear HO539; clear HO542; clear HB; have HO534 := n0_; have HO536 := n1_; have HO539 := n2_; have HO542 := n3_; have HO546 := n4_; have HB := n5_; clear n0_ n1_ n2_ n3_ n4_ n5_; (try clear hb); (try clear hb2); (try clear hk); (try clear hi); (try clear ho0)) | ((with_reducible refine gate_callee (f := 28) rfl ?_); refine goesL_ (some 28) rfl rfl Try.func28 (by kernel_rfl) rfl #[.slice Ao41 t540.length co41] rfl (by (try simp only [List.map_toArray, List.map_cons, List.map_nil]); first | done | rfl | (simp only [List.length_drop, List.length_take]; rfl)) ?_; (with_reducible refine (r06_Table.calls k _ _ t540 t547 _ ?side1 ?side2 A6.out).mono ?_); (case side1 => exact xC ((Kd.R_reads' HO542.out).2.2)); (case side2 => exact (Kd.R_reads' HO542.out).2.1); rintro e w43 ⟨v548, rfl, ho0, hb⟩; refine ⟨_, rfl, ?_⟩; have n0_ := aM (Kd.R_elder' (xR HO534.out) (Kd.R_base ho0) hb); have n1_ := aM (Kd.R_below (xR HO536.out) hb); have n2_ := aM (Kd.R_elder' (xR HO539.out) (Kd.R_base ho0) hb); have n3_ := aM (Kd.R_below (xR HO542.out) hb); have n4_ := aM (Kd.R_elder' (xR HO546.out) (Kd.R_base ho0) hb); have n5_ := aM (Kd.R_lower (Kd.R_new' (Kd.R_new' (Kd.R_new' ho0 (Kd.R_lt (xR HO534.out))) (Kd.R_lt (xR HO539.out))) (Kd.R_lt (xR HO546.out))) (below_size (xB HB.out))); have n6_ := aM (below_step (xB HB.out) hb); clear HO534; clear HO536; clear HO539; clear HO542; clear HO546; clear HB; have HO534 := n0_; have HO536 := n1_; have HO539 := n2_; have HO542 := n3_; have HO546 := n4_; have HO549 := n5_; have HB := n6_; clear n0_ n1_ n2_ n3_ n4_ n5_ n6_; (try clear hb); (try clear hb2); (try clear hk); (try clear hi); (try clear ho0); obtain ⟨Ao45, co45, eo45⟩ := Kd.R_slice HO546.out; subst eo45) | ((with_reducible refine gate_builtin (b := .append) (xs := #[.tmp 28, .tmp 29]) rfl ?_); at_builtin; refine Kd.R_append_rows (Kd.int .u8) (w0 := w) w.heap.size rfl (.tmp 28) (.tmp 29) 22 5 (.int .u8 0) 1 rfl Try.underlying22 info5 rfl (by decide) (by omega) v548 t547 t543 _ _ _ (fun k_ => some k_ ≠ (.slice Ao38 t531.length co38 : Value).ownBlock ∧ some k_ ≠ (v538 : Value).ownBlock ∧ some k_ ≠ (.slice Ao45 t543.length co45 : Value).ownBlock) (fun _ => False) rfl rfl ?aO ?aR (fun _ _ h => h) (fun _ h => h.elim) ?aF ?aB ?aS ?aL ?_; (case aR => exact xC ((Kd.R_reads' HO546.out).2.2)); (case aB => exact (xB HB.out)); (case aF => exact (fun k_ hk => ⟨Kd.fresh' (Kd.R_lt (xR HO534.out)) k_ hk, Kd.fresh' (Kd.R_lt (xR HO539.out)) k_ hk, Kd.fresh' (Kd.R_lt (xR HO546.out)) k_ hk⟩)); (case aO => exact (by (with_reducible repeat (first | apply Kd.R_alloc | apply Kd.R_drewN | apply Kd.R_drew)); exact Kd.R_mono HO549.out (fun _ hk => ⟨hk.1.1.2, ⟨hk.1.2, hk.2⟩⟩))); (case aS => exact (below_size (xB HB.out))); (case aL => have := LMc7.out; omega); intro v551 w44 ho hb hg hat; rw [← Ny550.out] at ho; have n0_ := aM (Kd.R_after (ok := (fun k_ => some k_ ≠ (v538 : Value).ownBlock ∧ some k_ ≠ (.slice Ao45 t543.length co45 : Value).ownBlock)) (by (with_reducible repeat (first | apply Kd.R_alloc | apply Kd.R_drewN | apply Kd.R_drew)); exact Kd.R_mono HO534.out (fun _ hk => ⟨⟨hk.1.1.2, hk.1.2⟩, hk.2⟩)) hg hat); have n1_ := aM (Kd.R_over' (xR HO536.out) (Kd.R_typed (xR HO549.out)) (by decide) hg); have n2_ := aM (Kd.R_after (ok := (fun k_ => some k_ ≠ (.slice Ao38 t531.length co38 : Value).ownBlock ∧ some k_ ≠ (.slice Ao45 t543.length co45 : Value).ownBlock)) (by (with_reducible repeat (first | apply Kd.R_alloc | apply Kd.R_drewN | apply Kd.R_drew)); exact Kd.R_mono HO539.out (fun _ hk => ⟨⟨hk.1.1.2, hk.1.2⟩, hk.2⟩)) hg hat); have n3_ := aM (Kd.R_over' (xR HO542.out) (Kd.R_typed (xR HO549.out)) (by decide) hg); have n4_ := aM (Kd.R_after (ok := (fun k_ => some k_ ≠ (.slice Ao38 t531.length co38 : Value).ownBlock ∧ some k_ ≠ (v538 : Value).ownBlock)) (by (with_reducible repeat (first | apply Kd.R_alloc | apply Kd.R_drewN | apply Kd.R_drew)); exact Kd.R_mono HO546.out (fun _ hk => ⟨⟨hk.1.1.2, hk.1.2⟩, hk.2⟩)) hg hat); have n5_ := aM (hb); have n6_ := aM (ho); clear HO534; clear HO536; clear HO539; clear HO542; clear HO546; clear HB; clear HO549; have HO534 := n0_; have HO536 := n1_; have HO539 := n2_; have HO542 := n3_; have HO546 := n4_; have HB := n5_; have HO552 := n6_; clear n0_ n1_ n2_ n3_ n4_ n5_ n6_; clear ho hb hg hat; obtain ⟨Ao46, co46, eo46⟩ := Kd.R_slice HO552.out; subst eo46; obtain ⟨Ao47, co47, eo47⟩ := Kd.R_slice HO539.out; subst eo47) | ((with_reducible refine gate_dst (N := 38) rfl ?_); refine Kd.R_lit (Kd.int .u8) _ 5 ?hg (N := 38) ?hd (xs := ([1] : List Int)) (inner := [.int .u8 1]) (ok := fun _ => True) (okp := fun _ => True) ?hr ?hp (fun _ hk => hk) trivial (Below.refl _ _) (Nat.le_refl _) (by simp) ?_; (case hd => rfl); (case hg => rfl); (case hr => first | (go_simp; done) | (go_simp; rfl)); (case hp => exact (Reps.one (show Kd.M (Kd.int .u8) _ _ _ 1 [.int .u8 1] from rfl) (Reps.none _ _))); intro v569 w48 ho49 hb hg_ hnew_; clear hg_ hnew_; (first | rw [← Ny568.out] at ho49 | (simp only [Int.reduceToNat] at ho49; rw [← Ny568.out] at ho49)); have n0_ := aM (Kd.R_elder' (xR HO534.out) (Kd.R_base ho49) hb); have n1_ := aM (Kd.R_below (xR HO536.out) hb); have n2_ := aM (Kd.R_elder' (xR HO539.out) (Kd.R_base ho49) hb); have n3_ := aM (Kd.R_below (xR HO542.out) hb); have n4_ := aM (Kd.R_elder' (xR HO546.out) (Kd.R_base ho49) hb); have n5_ := aM (Kd.R_elder' (xR HO552.out) (Kd.R_base ho49) hb); have n6_ := aM (Kd.R_lower (Kd.R_new' (Kd.R_new' (Kd.R_new' (Kd.R_new' ho49 (Kd.R_lt (xR HO534.out))) (Kd.R_lt (xR HO539.out))) (Kd.R_lt (xR HO546.out))) (Kd.R_lt (xR HO552.out))) (below_size (xB HB.out))); have n7_ := aM (below_step (xB HB.out) hb); clear HO534; clear HO536; clear HO539; clear HO542; clear HO546; clear HO552; clear HB; have HO534 := n0_; have HO536 := n1_; have HO539 := n2_; have HO542 := n3_; have HO546 := n4_; have HO552 := n5_; have HO570 := n6_; have HB := n7_; clear n0_ n1_ n2_ n3_ n4_ n5_ n6_ n7_; clear hb ho49; obtain ⟨Ao50, co50, eo50⟩ := Kd.R_slice HO536.out; subst eo50) | ((with_reducible refine gate_callee (f := 29) rfl ?_); refine goesL_ (some 40) rfl rfl Try.func29 (by kernel_rfl) rfl #[.slice Ao50 t532.length co50] rfl (by (try simp only [List.map_toArray, List.map_cons, List.map_nil]); first | done | rfl | (simp only [List.length_drop, List.length_take]; rfl)) ?_; (with_reducible refine (r04_List.calls k _ _ t532 t571 _ ?side1 ?side2 A33.out).mono ?_); (case side1 => exact xC ((Kd.R_reads' HO536.out).2.2)); (case side2 => exact (Kd.R_reads' HO536.out).2.1); rintro e w51 ⟨v572, rfl, ho0, hb⟩; refine ⟨_, rfl, ?_⟩; have n0_ := aM (Kd.R_elder' (xR HO534.out) (Kd.R_base ho0) hb); have n1_ := aM (Kd.R_below (xR HO536.out) hb); have n2_ := aM (Kd.R_elder' (xR HO539.out) (Kd.R_base ho0) hb); have n3_ := aM (Kd.R_below (xR HO542.out) hb); have n4_ := aM (Kd.R_elder' (xR HO546.out) (Kd.R_base ho0) hb); have n5_ := aM (Kd.R_elder' (xR HO552.out) (Kd.R_base ho0) hb); have n6_ := aM (Kd.R_elder' (xR HO570.out) (Kd.R_base ho0) hb); have n7_ := aM (Kd.R_lower (Kd.R_new' (Kd.R_new' (Kd.R_new' (Kd.R_new' (Kd.R_new' ho0 (Kd.R_lt (xR HO534.out))) (Kd.R_lt (xR HO539.out))) (Kd.R_lt (xR HO546.out))) (Kd.R_lt (xR HO552.out))) (Kd.R_lt (xR HO570.out))) (below_size (xB HB.out))); have n8_ := aM (below_step (xB HB.out) hb); clear HO534; clear HO536; clear HO539; clear HO542; clear HO546; clear HO552; clear HO570; clear HB; have HO534 := n0_; have HO536 := n1_; have HO539 := n2_; have HO542 := n3_; have HO546 := n4_; have HO552 := n5_; have HO570 := n6_; have HO573 := n7_; have HB := n8_; clear n0_ n1_ n2_ n3_ n4_ n5_ n6_ n7_ n8_; (try clear hb); (try clear hb2); (try clear hk); (try clear hi); (try clear ho0); obtain ⟨Ao53, co53, eo53⟩ := Kd.R_slice HO573.out; subst eo53) | ((with_reducible refine gate_builtin (b := .append) (xs := #[.tmp 38, .tmp 40]) rfl ?_); at_builtin; refine Kd.R_append_rows (Kd.int .u8) (w0 := w) w.heap.size rfl (.tmp 38) (.tmp 40) 22 5 (.int .u8 0) 1 rfl Try.underlying22 info5 rfl (by decide) (by omega) v569 y568 t571 _ _ _ (fun k_ => some k_ ≠ (.slice Ao38 t531.length co38 : Value).ownBlock ∧ some k_ ≠ (.slice Ao47 t537.length co47 : Value).ownBlock ∧ some k_ ≠ (.slice Ao45 t543.length co45 : Value).ownBlock ∧ some k_ ≠ (.slice Ao46 y550.length co46 : Value).ownBlock ∧ some k_ ≠ (.slice Ao53 t571.length co53 : Value).ownBlock) (fun _ => False) rfl rfl ?aO ?aR (fun _ _ h => h) (fun _ h => h.elim) ?aF ?aB ?aS ?aL ?_; (case aR => exact xC ((Kd.R_reads' HO573.out).2.2)); (case aB => exact (xB HB.out)); (case aF => exact (fun k_ hk => ⟨Kd.fresh' (Kd.R_lt (xR HO534.out)) k_ hk, Kd.fresh' (Kd.R_lt (xR HO539.out)) k_ hk, Kd.fresh' (Kd.R_lt (xR HO546.out)) k_ hk, Kd.fresh' (Kd.R_lt (xR HO552.out)) k_ hk, Kd.fresh' (Kd.R_lt (xR HO573.out)) k_ hk⟩)); (case aO => exact (by (with_reducible repeat (first | apply Kd.R_alloc | apply Kd.R_drewN | apply Kd.R_drew)); exact Kd.R_mono HO570.out (fun _ hk => ⟨hk.1.1.1.1.2, ⟨hk.1.1.1.2, ⟨hk.1.1.2, ⟨hk.1.2, hk.2⟩⟩⟩⟩))); (case aS => exact (below_size (xB HB.out))); (case aL => have := LMc34.out; omega); intro v575 w52 ho hb hg hat; rw [← Ny574.out] at ho; have n0_ := aM (Kd.R_after (ok := (fun k_ => some k_ ≠ (.slice Ao47 t537.length co47 : Value).ownBlock ∧ some k_ ≠ (.slice Ao45 t543.length co45 : Value).ownBlock ∧ some k_ ≠ (.slice Ao46 y550.length co46 : Value).ownBlock ∧ some k_ ≠ (.slice Ao53 t571.length co53 : Value).ownBlock)) (by (with_reducible repeat (first | apply Kd.R_alloc | apply Kd.R_drewN | apply Kd.R_drew)); exact Kd.R_mono HO534.out (fun _ hk => ⟨⟨hk.1.1.1.1, ⟨hk.1.1.1.2, ⟨hk.1.1.2, hk.2⟩⟩⟩, hk.1.2⟩)) hg hat); have n1_ := aM (Kd.R_over' (xR HO536.out) (Kd.R_typed (xR HO570.out)) (by decide) hg); have n2_ := aM (Kd.R_after (ok := (fun k_ => some k_ ≠ (.slice Ao38 t531.length co38 : Value).ownBlock ∧ some k_ ≠ (.slice Ao45 t543.length co45 : Value).ownBlock ∧ some k_ ≠ (.slice Ao46 y550.length co46 : Value).ownBlock ∧ some k_ ≠ (.slice Ao53 t571.length co53 : Value).ownBlock)) (by (with_reducible repeat (first | apply Kd.R_alloc | apply Kd.R_drewN | apply Kd.R_drew)); exact Kd.R_mono HO539.out (fun _ hk => ⟨⟨hk.1.1.1.1, ⟨hk.1.1.1.2, ⟨hk.1.1.2, hk.2⟩⟩⟩, hk.1.2⟩)) hg hat); have n3_ := aM (Kd.R_over' (xR HO542.out) (Kd.R_typed (xR HO570.out)) (by decide) hg); have n4_ := aM (Kd.R_after (ok := (fun k_ => some k_ ≠ (.slice Ao38 t531.length co38 : Value).ownBlock ∧ some k_ ≠ (.slice Ao47 t537.length co47 : Value).ownBlock ∧ some k_ ≠ (.slice Ao46 y550.length co46 : Value).ownBlock ∧ some k_ ≠ (.slice Ao53 t571.length co53 : Value).ownBlock)) (by (with_reducible repeat (first | apply Kd.R_alloc | apply Kd.R_drewN | apply Kd.R_drew)); exact Kd.R_mono HO546.out (fun _ hk => ⟨⟨hk.1.1.1.1, ⟨hk.1.1.1.2, ⟨hk.1.1.2, hk.2⟩⟩⟩, hk.1.2⟩)) hg hat); have n5_ := aM (Kd.R_after (ok := (fun k_ => some k_ ≠ (.slice Ao38 t531.length co38 : Value).ownBlock ∧ some k_ ≠ (.slice Ao47 t537.length co47 : Value).ownBlock ∧ some k_ ≠ (.slice Ao45 t543.length co45 : Value).ownBlock ∧ some k_ ≠ (.slice Ao53 t571.length co53 : Value).ownBlock)) (by (with_reducible repeat (first | apply Kd.R_alloc | apply Kd.R_drewN | apply Kd.R_drew)); exact Kd.R_mono HO552.out (fun _ hk => ⟨⟨hk.1.1.1, ⟨hk.1.1.2.1, ⟨hk.1.1.2.2, hk.2⟩⟩⟩, hk.1.2⟩)) hg hat); have n6_ := aM (Kd.R_after (ok := (fun k_ => some k_ ≠ (.slice Ao38 t531.length co38 : Value).ownBlock ∧ some k_ ≠ (.slice Ao47 t537.length co47 : Value).ownBlock ∧ some k_ ≠ (.slice Ao45 t543.length co45 : Value).ownBlock ∧ some k_ ≠ (.slice Ao46 y550.length co46 : Value).ownBlock)) (by (with_reducible repeat (first | apply Kd.R_alloc | apply Kd.R_drewN | apply Kd.R_drew)); exact Kd.R_mono HO573.out (fun _ hk => ⟨⟨hk.1.1.1.1.2, ⟨hk.1.1.1.2, ⟨hk.1.1.2, hk.1.2⟩⟩⟩, hk.2⟩)) hg hat); have n7_ := aM (hb); have n8_ := aM (ho); clear HO534; clear HO536; clear HO539; clear HO542; clear HO546; clear HO552; clear HO573; clear HB; clear HO570; have HO534 := n0_; have HO536 := n1_; have HO539 := n2_; have HO542 := n3_; have HO546 := n4_; have HO552 := n5_; have HO573 := n6_; have HB := n7_; have HO576 := n8_; clear n0_ n1_ n2_ n3_ n4_ n5_ n6_ n7_ n8_; clear ho hb hg hat) | ((with_reducible refine gate_callee (f := 30) rfl ?_); refine goesL_ (some 44) rfl rfl Try.func30 (by kernel_rfl) rfl #[.slice Ao47 t537.length co47] rfl (by (try simp only [List.map_toArray, List.map_cons, List.map_nil]); first | done | rfl | (simp only [List.length_drop, List.length_take]; rfl)) ?_; (with_reducible refine (r02_Row.calls k _ _ t537 t577 _ ?side1 ?side2 A35.out).mono ?_); (case side1 => exact xC ((Kd.R_reads' HO539.out).2.2)); (case side2 => exact (Kd.R_reads' HO539.out).2.1); rintro e w54 ⟨v578, rfl, ho0, hb⟩; refine ⟨_, rfl, ?_⟩; have n0_ := aM (Kd.R_elder' (xR HO534.out) (Kd.R_base ho0) hb); have n1_ := aM (Kd.R_below (xR HO536.out) hb); have n2_ := aM (Kd.R_elder' (xR HO539.out) (Kd.R_base ho0) hb); have n3_ := aM (Kd.R_below (xR HO542.out) hb); have n4_ := aM (Kd.R_elder' (xR HO546.out) (Kd.R_base ho0) hb); have n5_ := aM (Kd.R_elder' (xR HO552.out) (Kd.R_base ho0) hb); have n6_ := aM (Kd.R_elder' (xR HO573.out) (Kd.R_base ho0) hb); have n7_ := aM (Kd.R_elder' (xR HO576.out) (Kd.R_base ho0) hb); have n8_ := aM (Kd.R_lower (Kd.R_new' (Kd.R_new' (Kd.R_new' (Kd.R_new' (Kd.R_new' (Kd.R_new' ho0 (Kd.R_lt (xR HO534.out))) (Kd.R_lt (xR HO539.out))) (Kd.R_lt (xR HO546.out))) (Kd.R_lt (xR HO552.out))) (Kd.R_lt (xR HO573.out))) (Kd.R_lt (xR HO576.out))) (below_size (xB HB.out))); have n9_ := aM (below_step (xB HB.out) hb); clear HO534; clear HO536; clear HO539; clear HO542; clear HO546; clear HO552; clear HO573; clear HO576; clear HB; have HO534 := n0_; have HO536 := n1_; have HO539 := n2_; have HO542 := n3_; have HO546 := n4_; have HO552 := n5_; have HO573 := n6_; have HO576 := n7_; have HO579 := n8_; have HB := n9_; clear n0_ n1_ n2_ n3_ n4_ n5_ n6_ n7_ n8_ n9_; (try clear hb); (try clear hb2); (try clear hk); (try clear hi); (try clear ho0); obtain ⟨Ao56, co56, eo56⟩ := Kd.R_slice HO579.out; subst eo56) | ((with_reducible refine gate_builtin (b := .append) (xs := #[.tmp 42, .tmp 44]) rfl ?_); at_builtin; refine Kd.R_append_rows (Kd.int .u8) (w0 := w) w.heap.size rfl (.tmp 42) (.tmp 44) 22 5 (.int .u8 0) 1 rfl Try.underlying22 info5 rfl (by decide) (by omega) v575 y574 t577 _ _ _ (fun k_ => some k_ ≠ (.slice Ao38 t531.length co38 : Value).ownBlock ∧ some k_ ≠ (.slice Ao47 t537.length co47 : Value).ownBlock ∧ some k_ ≠ (.slice Ao45 t543.length co45 : Value).ownBlock ∧ some k_ ≠ (.slice Ao46 y550.length co46 : Value).ownBlock ∧ some k_ ≠ (.slice Ao53 t571.length co53 : Value).ownBlock ∧ some k_ ≠ (.slice Ao56 t577.length co56 : Value).ownBlock) (fun _ => False) rfl rfl ?aO ?aR (fun _ _ h => h) (fun _ h => h.elim) ?aF ?aB ?aS ?aL ?_; (case aR => exact xC ((Kd.R_reads' HO579.out).2.2)); (case aB => exact (xB HB.out)); (case aF => exact (fun k_ hk => ⟨Kd.fresh' (Kd.R_lt (xR HO534.out)) k_ hk, Kd.fresh' (Kd.R_lt (xR HO539.out)) k_ hk, Kd.fresh' (Kd.R_lt (xR HO546.out)) k_ hk, Kd.fresh' (Kd.R_lt (xR HO552.out)) k_ hk, Kd.fresh' (Kd.R_lt (xR HO573.out)) k_ hk, Kd.fresh' (Kd.R_lt (xR HO579.out)) k_ hk⟩)); (case aO => exact (by (with_reducible repeat (first | apply Kd.R_alloc | apply Kd.R_drewN | apply Kd.R_drew)); exact Kd.R_mono HO576.out (fun _ hk => ⟨hk.1.1, ⟨hk.1.2.1, ⟨hk.1.2.2.1, ⟨hk.1.2.2.2.1, ⟨hk.1.2.2.2.2, hk.2⟩⟩⟩⟩⟩))); (case aS => exact (below_size (xB HB.out))); (case aL => have := LMc36.out; omega); intro v581 w55 ho hb hg hat; rw [← Ny580.out] at ho; have n0_ := aM (Kd.R_after (ok := (fun k_ => some k_ ≠ (.slice Ao47 t537.length co47 : Value).ownBlock ∧ some k_ ≠ (.slice Ao45 t543.length co45 : Value).ownBlock ∧ some k_ ≠ (.slice Ao46 y550.length co46 : Value).ownBlock ∧ some k_ ≠ (.slice Ao53 t571.length co53 : Value).ownBlock ∧ some k_ ≠ (.slice Ao56 t577.length co56 : Value).ownBlock)) (by (with_reducible repeat (first | apply Kd.R_alloc | apply Kd.R_drewN | apply Kd.R_drew)); exact Kd.R_mono HO534.out (fun _ hk => ⟨⟨hk.1.1.1, ⟨hk.1.1.2.1, ⟨hk.1.1.2.2.1, ⟨hk.1.1.2.2.2, hk.2⟩⟩⟩⟩, hk.1.2⟩)) hg hat); have n1_ := aM (Kd.R_over' (xR HO536.out) (Kd.R_typed (xR HO576.out)) (by decide) hg); have n2_ := aM (Kd.R_after (ok := (fun k_ => some k_ ≠ (.slice Ao38 t531.length co38 : Value).ownBlock ∧ some k_ ≠ (.slice Ao45 t543.length co45 : Value).ownBlock ∧ some k_ ≠ (.slice Ao46 y550.length co46 : Value).ownBlock ∧ some k_ ≠ (.slice Ao53 t571.length co53 : Value).ownBlock ∧ some k_ ≠ (.slice Ao56 t577.length co56 : Value).ownBlock)) (by (with_reducible repeat (first | apply Kd.R_alloc | apply Kd.R_drewN | apply Kd.R_drew)); exact Kd.R_mono HO539.out (fun _ hk => ⟨⟨hk.1.1.1, ⟨hk.1.1.2.1, ⟨hk.1.1.2.2.1, ⟨hk.1.1.2.2.2, hk.2⟩⟩⟩⟩, hk.1.2⟩)) hg hat); have n3_ := aM (Kd.R_over' (xR HO542.out) (Kd.R_typed (xR HO576.out)) (by decide) hg); have n4_ := aM (Kd.R_after (ok := (fun k_ => some k_ ≠ (.slice Ao38 t531.length co38 : Value).ownBlock ∧ some k_ ≠ (.slice Ao47 t537.length co47 : Value).ownBlock ∧ some k_ ≠ (.slice Ao46 y550.length co46 : Value).ownBlock ∧ some k_ ≠ (.slice Ao53 t571.length co53 : Value).ownBlock ∧ some k_ ≠ (.slice Ao56 t577.length co56 : Value).ownBlock)) (by (with_reducible repeat (first | apply Kd.R_alloc | apply Kd.R_drewN | apply Kd.R_drew)); exact Kd.R_mono HO546.out (fun _ hk => ⟨⟨hk.1.1.1, ⟨hk.1.1.2.1, ⟨hk.1.1.2.2.1, ⟨hk.1.1.2.2.2, hk.2⟩⟩⟩⟩, hk.1.2⟩)) hg hat); have n5_ := aM (Kd.R_after (ok := (fun k_ => some k_ ≠ (.slice Ao38 t531.length co38 : Value).ownBlock ∧ some k_ ≠ (.slice Ao47 t537.length co47 : Value).ownBlock ∧ some k_ ≠ (.slice Ao45 t543.length co45 : Value).ownBlock ∧ some k_ ≠ (.slice Ao53 t571.length co53 : Value).ownBlock ∧ some k_ ≠ (.slice Ao56 t577.length co56 : Value).ownBlock)) (by (with_reducible repeat (first | apply Kd.R_alloc | apply Kd.R_drewN | apply Kd.R_drew)); exact Kd.R_mono HO552.out (fun _ hk => ⟨⟨hk.1.1.1, ⟨hk.1.1.2.1, ⟨hk.1.1.2.2.1, ⟨hk.1.1.2.2.2, hk.2⟩⟩⟩⟩, hk.1.2⟩)) hg hat); have n6_ := aM (Kd.R_after (ok := (fun k_ => some k_ ≠ (.slice Ao38 t531.length co38 : Value).ownBlock ∧ some k_ ≠ (.slice Ao47 t537.length co47 : Value).ownBlock ∧ some k_ ≠ (.slice Ao45 t543.length co45 : Value).ownBlock ∧ some k_ ≠ (.slice Ao46 y550.length co46 : Value).ownBlock ∧ some k_ ≠ (.slice Ao56 t577.length co56 : Value).ownBlock)) (by (with_reducible repeat (first | apply Kd.R_alloc | apply Kd.R_drewN | apply Kd.R_drew)); exact Kd.R_mono HO573.out (fun _ hk => ⟨⟨hk.1.1.1, ⟨hk.1.1.2.1, ⟨hk.1.1.2.2.1, ⟨hk.1.1.2.2.2, hk.2⟩⟩⟩⟩, hk.1.2⟩)) hg hat); have n7_ := aM (Kd.R_after (ok := (fun k_ => some k_ ≠ (.slice Ao38 t531.length co38 : Value).ownBlock ∧ some k_ ≠ (.slice Ao47 t537.length co47 : Value).ownBlock ∧ some k_ ≠ (.slice Ao45 t543.length co45 : Value).ownBlock ∧ some k_ ≠ (.slice Ao46 y550.length co46 : Value).ownBlock ∧ some k_ ≠ (.slice Ao53 t571.length co53 : Value).ownBlock)) (by (with_reducible repeat (first | apply Kd.R_alloc | apply Kd.R_drewN | apply Kd.R_drew)); exact Kd.R_mono HO579.out (fun _ hk => ⟨⟨hk.1.1.1.1.1.2, ⟨hk.1.1.1.1.2, ⟨hk.1.1.1.2, ⟨hk.1.1.2, hk.1.2⟩⟩⟩⟩, hk.2⟩)) hg hat); have n8_ := aM (hb); have n9_ := aM (ho); clear HO534; clear HO536; clear HO539; clear HO542; clear HO546; clear HO552; clear HO573; clear HO579; clear HB; clear HO576; have HO534 := n0_; have HO536 := n1_; have HO539 := n2_; have HO542 := n3_; have HO546 := n4_; have HO552 := n5_; have HO573 := n6_; have HO579 := n7_; have HB := n8_; have HO582 := n9_; clear n0_ n1_ n2_ n3_ n4_ n5_ n6_ n7_ n8_ n9_; clear ho hb hg hat))
     go_ret
     exact ⟨_, by first | rfl | (simp [errW_none, errW_some] <;> rfl) | (simp [*, errW_none, errW_some] <;> rfl), by (with_reducible repeat (first | apply Kd.R_alloc | apply Kd.R_drewN | apply Kd.R_drew)); exact Kd.R_mono HO582.out (fun _ hk => trivial), xB HB.out⟩
    ·
     rw [if_neg c36] at H
     exact absurd H (by simp)
   ·
    rw [if_neg c34] at H
    exact absurd H (by simp)
 ·
  rw [if_neg c7] at H
  exact absurd H (by simp)
mutual
def w11_TextsPuts.j0 : Nat → List Int → List (List Int) → Int → Bool → Option (Bool)
 | 0, _, _, _, _ => none
 | k + 1, x0, x1, x5, x18 => if x18 = true then (some true) else ((r01_Copy.f x0).bind fun t586 => ((texts_Put.f k t586 x1).bind fun bt589 => ((r01_Same.f t586 x0).bind fun t593 => (if t593 = true then (w11_TextsPuts.j1 k x1 t586 bt589.1 bt589.2 (bt589.2 != x5)) else (w11_TextsPuts.j1 k x1 t586 bt589.1 bt589.2 true)))))
def w11_TextsPuts.j1 : Nat → List (List Int) → List Int → List Int → Int → Bool → Option (Bool)
 | 0, _, _, _, _, _ => none
 | k + 1, x1, x6, x7, x8, x35 => if x35 = true then (some false) else (if x8 = 0 then ((r11_Bytes.f k x1).bind fun t594 => (if x6.length + t594.length < 140737488355328 then ((r01_Same.f x7 (x6 ++ t594)).bind fun t600 => (some t600)) else (none))) else (some ((x7.length : Int) == 0)))
end
def w11_TextsPuts.f (k : Nat) (l0 : List Int) (l1 : List (List Int)) : Option (Bool) := (w11_alive.f k).bind fun t583 => (if t583 = true then ((r11_Right.f k l1).bind fun t584 => (if t584 = 0 then ((w11_great.f k l1 300).bind fun t585 => (w11_TextsPuts.j0 k l0 l1 t584 t585)) else (w11_TextsPuts.j0 k l0 l1 t584 false))) else (some false))
set_option maxHeartbeats 8000000 in
set_option maxRecDepth 100000 in
theorem w11_TextsPuts.calls (k : Nat) (A0 : Option Addr) (c0 : Nat) (l0 : List Int) (A1 : Option Addr) (c1 : Nat) (l1 : List (List Int)) (r : Bool) (w : World) (hr0 : Kd.C (Kd.int .u8) w A0 l0.length l0) (hc0 : l0.length ≤ c0) (hr1 : Kd.C (Kd.slice 5 (Kd.int .u8)) w A1 l1.length l1) (hc1 : l1.length ≤ c1) (h : w11_TextsPuts.f k l0 l1 = some r) :
  Calls Try.prog 3 #[.slice A0 l0.length c0, .slice A1 l1.length c1] w fun e w' => e = .returned (.bool r) ∧ Below w.heap.size w w' := by
 have HR0 := aM hr0
 have HC0 := aM hc0
 clear hr0 hc0
 have HR1 := aM hr1
 have HC1 := aM hc1
 clear hr1 hc1
 have HB := aM (Below.refl w.heap.size w)
 have H : ((w11_alive.f k).bind fun t583 => (if t583 = true then ((r11_Right.f k l1).bind fun t584 => (if t584 = 0 then ((w11_great.f k l1 300).bind fun t585 => (w11_TextsPuts.j0 k l0 l1 t584 t585)) else (w11_TextsPuts.j0 k l0 l1 t584 false))) else (some false))) = some r := h
 clear h
 replace H := Option.bind_eq_some_iff.mp H
 obtain ⟨t583, A30, H⟩ := H
 replace H : (if t583 = true then ((r11_Right.f k l1).bind fun t584 => (if t584 = 0 then ((w11_great.f k l1 300).bind fun t585 => (w11_TextsPuts.j0 k l0 l1 t584 t585)) else (w11_TextsPuts.j0 k l0 l1 t584 false))) else (some false)) = some r := H
 have A3 := aM A30
 clear A30
 by_cases c4 : t583 = true
 ·
  subst c4
  have H1 : ((r11_Right.f k l1).bind fun t584 => (if t584 = 0 then ((w11_great.f k l1 300).bind fun t585 => (w11_TextsPuts.j0 k l0 l1 t584 t585)) else (w11_TextsPuts.j0 k l0 l1 t584 false))) = some r := by rw [if_pos rfl] at H; exact H
  clear H
  have H := H1
  clear H1
  replace H := Option.bind_eq_some_iff.mp H
  obtain ⟨t584, A50, H⟩ := H
  replace H : (if t584 = 0 then ((w11_great.f k l1 300).bind fun t585 => (w11_TextsPuts.j0 k l0 l1 t584 t585)) else (w11_TextsPuts.j0 k l0 l1 t584 false)) = some r := H
  have A5 := aM A50
  clear A50
  have HC6 := aM H
  clear H
  go_enter Try.func3, Try.ntmps3
  go_upto_region 4 with (first | ((with_reducible refine gate_callee (f := 6) rfl ?_); refine goesL_ (some 9) rfl rfl Try.func6 (by kernel_rfl) rfl #[] rfl (by (try simp only [List.map_toArray, List.map_cons, List.map_nil]); first | done | rfl | (simp only [List.length_drop, List.length_take]; rfl)) ?_; (with_reducible refine (w11_alive.calls k  true _ A3.out).mono ?_); rintro e w7 ⟨rfl, hb⟩; refine ⟨_, rfl, ?_⟩; have n0_ := aM (below_step (xB HB.out) hb); clear HB; have HB := n0_; clear n0_; (try clear hb); (try clear hb2); (try clear hk); (try clear hi)) | ((with_reducible refine gate_callee (f := 7) rfl ?_); refine goesL_ (some 12) rfl rfl Try.func7 (by kernel_rfl) rfl #[.slice A1 l1.length c1] rfl (by (try simp only [List.map_toArray, List.map_cons, List.map_nil]); first | done | rfl | (simp only [List.length_drop, List.length_take]; rfl)) ?_; (with_reducible refine (r11_Right.calls k _ _ l1 t584 _ ?side1 ?side2 A5.out).mono ?_); (case side1 => exact xC (Kd.C_below HR1.out HB.out)); (case side2 => exact HC1.out); rintro e w' ⟨rfl, ⟨nd, rfl⟩⟩; refine ⟨_, rfl, ?_⟩))
  (try simp only [xQ])
  go_cut [18] (fun v18 wc => ∃ (kq : Nat) (x18_5 : Bool), v18 = .bool x18_5 ∧ Aside0 (w11_TextsPuts.j0 kq l0 l1 t584 x18_5 = some r) ∧ Aside0 (kq ≤ k) ∧ Aside0 (Below w.heap.size w wc))
  case first =>
   have H := HC6.out
   clear HC6
   by_cases c8 : t584 = 0
   ·
    rw [if_pos c8] at H
    have c8b0 : (t584 == 0) = true := beq_iff_eq.mpr c8
    have c8b1 : (t584 != 0) = false := bne_eq_false_iff_eq.mpr c8
    clear c8
    (first | rw [c8b0] | (simp only [i64_w, i32_w]; rw [c8b0]) | skip)
    replace H := Option.bind_eq_some_iff.mp H
    obtain ⟨t585, A90, H⟩ := H
    replace H : (w11_TextsPuts.j0 k l0 l1 t584 t585) = some r := H
    have A9 := aM A90
    clear A90
    have H' := aM H
    clear H
    go_wp2_with (first | (go_at_call 8; (with_reducible refine (w11_great.calls k _ _ l1 300 t585 _ ?side1 ?side2 A9.out).mono ?_); (case side1 => exact xC (Kd.C_below HR1.out HB.out)); (case side2 => exact HC1.out); rintro e w10 ⟨rfl, hb⟩; have n0_ := aM (below_step (xB HB.out) hb); clear HB; have HB := n0_; clear n0_; (try clear hb); (try clear hb2); (try clear hk); (try clear hi)))
    go_meet
    case rel => exact ⟨_, (t585), (by first | rfl | (simp; done) | (simp [*]; done)), H', ⟨by first | omega | exact Nat.le_refl _⟩, ⟨xB HB.out⟩⟩
   ·
    rw [if_neg c8] at H
    have c8b0 : (t584 == 0) = false := beq_eq_false_iff_ne.mpr c8
    have c8b1 : (t584 != 0) = true := bne_iff_ne.mpr c8
    (first | rw [c8b0] | (simp only [i64_w, i32_w]; rw [c8b0]) | skip)
    have H' := aM H
    clear H
    go_wp2
    go_meet
    case rel => exact ⟨_, (false), (by first | rfl | (simp; done) | (simp [*]; done)), H', ⟨by first | omega | exact Nat.le_refl _⟩, ⟨xB HB.out⟩⟩
  case rest =>
   clear HC6
   try clear c1
   try clear p2
   try clear c3
   try clear c4
   try clear c6
   try clear c7
   try clear c8
   try clear c8b0
   try clear c8b1
   obtain ⟨kq, x18_5, rfl, HA, HJ5, HB⟩ := hcut
   cases kq with
   | zero => exact absurd HA.out (by simp [w11_TextsPuts.j0])
   | succ kj5 =>
    have H := HA.out
    clear HA
    simp only [w11_TextsPuts.j0] at H
    by_cases c11 : x18_5 = true
    ·
     subst c11
     have H1 : (some true) = some r := by rw [if_pos rfl] at H; exact H
     clear H
     have H := H1
     clear H1
     obtain rfl := Option.some.inj H
     go_wp2
     go_ret
     exact ⟨by first | rfl | (simp [errW_none, errW_some] <;> rfl) | (simp [*, errW_none, errW_some] <;> rfl), xB HB.out⟩
    ·
     replace c11 := Bool.eq_false_iff.mpr c11
     subst c11
     have H1 : ((r01_Copy.f l0).bind fun t586 => ((texts_Put.f kj5 t586 l1).bind fun bt589 => ((r01_Same.f t586 l0).bind fun t593 => (if t593 = true then (w11_TextsPuts.j1 kj5 l1 t586 bt589.1 bt589.2 (bt589.2 != t584)) else (w11_TextsPuts.j1 kj5 l1 t586 bt589.1 bt589.2 true))))) = some r := by rw [if_neg (show ¬ (false = true) by decide)] at H; exact H
     clear H
     have H := H1
     clear H1
     replace H := Option.bind_eq_some_iff.mp H
     obtain ⟨t586, A120, H⟩ := H
     replace H : ((texts_Put.f kj5 t586 l1).bind fun bt589 => ((r01_Same.f t586 l0).bind fun t593 => (if t593 = true then (w11_TextsPuts.j1 kj5 l1 t586 bt589.1 bt589.2 (bt589.2 != t584)) else (w11_TextsPuts.j1 kj5 l1 t586 bt589.1 bt589.2 true)))) = some r := H
     have A12 := aM A120
     clear A120
     replace H := Option.bind_eq_some_iff.mp H
     obtain ⟨⟨t589, t590⟩, A130, H⟩ := H
     replace H : ((r01_Same.f t586 l0).bind fun t593 => (if t593 = true then (w11_TextsPuts.j1 kj5 l1 t586 t589 t590 (t590 != t584)) else (w11_TextsPuts.j1 kj5 l1 t586 t589 t590 true))) = some r := H
     have A13 := aM A130
     clear A130
     have HC14 := aM H
     clear H
     go_upto_region 8 with (first | ((with_reducible refine gate_callee (f := 9) rfl ?_); refine goesL_ (some 20) rfl rfl Try.func9 (by kernel_rfl) rfl #[.slice A0 l0.length c0] rfl (by (try simp only [List.map_toArray, List.map_cons, List.map_nil]); first | done | rfl | (simp only [List.length_drop, List.length_take]; rfl)) ?_; (with_reducible refine (r01_Copy.calls _ _ l0 t586 _ ?side1 ?side2 A12.out).mono ?_); (case side1 => exact xC (Kd.C_below HR0.out HB.out)); (case side2 => exact HC0.out); rintro e w15 ⟨v587, rfl, ho0, hb⟩; refine ⟨_, rfl, ?_⟩; have n0_ := aM (Kd.R_lower ho0 (below_size (xB HB.out))); have n1_ := aM (below_step (xB HB.out) hb); clear HB; have HO588 := n0_; have HB := n1_; clear n0_ n1_; (try clear hb); (try clear hb2); (try clear hk); (try clear hi); (try clear ho0); obtain ⟨Ao16, co16, eo16⟩ := Kd.R_slice HO588.out; subst eo16) | ((with_reducible refine gate_callee (f := 10) rfl ?_); refine goesL_ (some 24) rfl rfl Try.func10 (by kernel_rfl) rfl #[.slice Ao16 t586.length co16, .slice A1 l1.length c1] rfl (by (try simp only [List.map_toArray, List.map_cons, List.map_nil]); first | done | rfl | (simp only [List.length_drop, List.length_take]; rfl)) ?_; (with_reducible refine (texts_Put.calls kj5 _ _ t586 _ _ l1 t589 t590 _ ?side1 ?side2 ?side3 ?side4 A13.out).mono ?_); (case side1 => exact xC ((Kd.R_reads' HO588.out).2.2)); (case side2 => exact (Kd.R_reads' HO588.out).2.1); (case side3 => exact xC (Kd.C_below HR1.out HB.out)); (case side4 => exact HC1.out); rintro e w17 ⟨v591, rfl, ho0, hb⟩; refine ⟨_, rfl, ?_⟩; have n0_ := aM (Kd.R_elder' (xR HO588.out) (Kd.R_base ho0) hb); have n1_ := aM (Kd.R_lower (Kd.R_new' ho0 (Kd.R_lt (xR HO588.out))) (below_size (xB HB.out))); have n2_ := aM (below_step (xB HB.out) hb); clear HO588; clear HB; have HO588 := n0_; have HO592 := n1_; have HB := n2_; clear n0_ n1_ n2_; (try clear hb); (try clear hb2); (try clear hk); (try clear hi); (try clear ho0)))
     (try simp only [xQ])
     go_cut [35] (fun v35 wc => ∃ (kq : Nat) (x35_13 : Bool), v35 = .bool x35_13 ∧ Aside0 (w11_TextsPuts.j1 kq l1 t586 t589 t590 x35_13 = some r) ∧ Aside0 (kq ≤ kj5) ∧ Aside0 (Kd.R (Kd.int .u8) 5 wc w.heap.size (fun k_ => some k_ ≠ (v591 : Value).ownBlock) (.slice Ao16 t586.length co16) t586) ∧ Aside0 (Kd.R (Kd.int .u8) 5 wc w.heap.size (fun k_ => some k_ ≠ ((.slice Ao16 t586.length co16) : Value).ownBlock) v591 t589) ∧ Aside0 (Below w.heap.size w wc))
     case first =>
      have H := HC14.out
      clear HC14
      replace H := Option.bind_eq_some_iff.mp H
      obtain ⟨t593, A180, H⟩ := H
      replace H : (if t593 = true then (w11_TextsPuts.j1 kj5 l1 t586 t589 t590 (t590 != t584)) else (w11_TextsPuts.j1 kj5 l1 t586 t589 t590 true)) = some r := H
      have A18 := aM A180
      clear A180
      by_cases c19 : t593 = true
      ·
       subst c19
       have H1 : (w11_TextsPuts.j1 kj5 l1 t586 t589 t590 (t590 != t584)) = some r := by rw [if_pos rfl] at H; exact H
       clear H
       have H := H1
       clear H1
       have H' := aM H
       clear H
       go_wp2_with (first | ((with_reducible refine gate_callee (f := 11) rfl ?_); refine goesL_ (some 29) rfl rfl Try.func11 (by kernel_rfl) rfl #[.slice Ao16 t586.length co16, .slice A0 l0.length c0] rfl (by (try simp only [List.map_toArray, List.map_cons, List.map_nil]); first | done | rfl | (simp only [List.length_drop, List.length_take]; rfl)) ?_; (with_reducible refine (r01_Same.calls _ _ t586 _ _ l0 true _ ?side1 ?side2 ?side3 ?side4 A18.out).mono ?_); (case side1 => exact xC ((Kd.R_reads' HO588.out).2.2)); (case side2 => exact (Kd.R_reads' HO588.out).2.1); (case side3 => exact xC (Kd.C_below HR0.out HB.out)); (case side4 => exact HC0.out); rintro e w' ⟨rfl, ⟨nd, rfl⟩⟩; refine ⟨_, rfl, ?_⟩))
       go_meet
       case rel => exact ⟨_, ((t590 != t584)), (by first | rfl | (simp; done) | (simp [*]; done)), H', ⟨by have := HJ5.out; first | omega | exact Nat.le_refl _⟩, ⟨by (with_reducible repeat (first | apply Kd.R_alloc | apply Kd.R_drewN | apply Kd.R_drew)); exact Kd.R_mono HO588.out (fun _ hk => hk.2)⟩, ⟨by (with_reducible repeat (first | apply Kd.R_alloc | apply Kd.R_drewN | apply Kd.R_drew)); exact Kd.R_mono HO592.out (fun _ hk => hk.2)⟩, ⟨xB HB.out⟩⟩
      ·
       replace c19 := Bool.eq_false_iff.mpr c19
       subst c19
       have H1 : (w11_TextsPuts.j1 kj5 l1 t586 t589 t590 true) = some r := by rw [if_neg (show ¬ (false = true) by decide)] at H; exact H
       clear H
       have H := H1
       clear H1
       have H' := aM H
       clear H
       go_wp2_with (first | ((with_reducible refine gate_callee (f := 11) rfl ?_); refine goesL_ (some 29) rfl rfl Try.func11 (by kernel_rfl) rfl #[.slice Ao16 t586.length co16, .slice A0 l0.length c0] rfl (by (try simp only [List.map_toArray, List.map_cons, List.map_nil]); first | done | rfl | (simp only [List.length_drop, List.length_take]; rfl)) ?_; (with_reducible refine (r01_Same.calls _ _ t586 _ _ l0 false _ ?side1 ?side2 ?side3 ?side4 A18.out).mono ?_); (case side1 => exact xC ((Kd.R_reads' HO588.out).2.2)); (case side2 => exact (Kd.R_reads' HO588.out).2.1); (case side3 => exact xC (Kd.C_below HR0.out HB.out)); (case side4 => exact HC0.out); rintro e w' ⟨rfl, ⟨nd, rfl⟩⟩; refine ⟨_, rfl, ?_⟩))
       go_meet
       case rel => exact ⟨_, (true), (by first | rfl | (simp; done) | (simp [*]; done)), H', ⟨by have := HJ5.out; first | omega | exact Nat.le_refl _⟩, ⟨by (with_reducible repeat (first | apply Kd.R_alloc | apply Kd.R_drewN | apply Kd.R_drew)); exact Kd.R_mono HO588.out (fun _ hk => hk.2)⟩, ⟨by (with_reducible repeat (first | apply Kd.R_alloc | apply Kd.R_drewN | apply Kd.R_drew)); exact Kd.R_mono HO592.out (fun _ hk => hk.2)⟩, ⟨xB HB.out⟩⟩
     case rest =>
      clear HC14
      try clear c1
      try clear p2
      try clear c3
      try clear c4
      try clear c6
      try clear c7
      try clear c8
      try clear c8b0
      try clear c8b1
      try clear c9
      try clear c10
      try clear c11
      try clear c19
      try clear p2
      obtain ⟨kq, x35_13, rfl, HA, HJ13, HO_6, HO_7, HB⟩ := hcut
      cases kq with
      | zero => exact absurd HA.out (by simp [w11_TextsPuts.j1])
      | succ kj13 =>
       have H := HA.out
       clear HA
       simp only [w11_TextsPuts.j1] at H
       by_cases c20 : x35_13 = true
       ·
        subst c20
        have H1 : (some false) = some r := by rw [if_pos rfl] at H; exact H
        clear H
        have H := H1
        clear H1
        obtain rfl := Option.some.inj H
        go_wp2
        go_ret
        exact ⟨by first | rfl | (simp [errW_none, errW_some] <;> rfl) | (simp [*, errW_none, errW_some] <;> rfl), xB HB.out⟩
       ·
        replace c20 := Bool.eq_false_iff.mpr c20
        subst c20
        have H1 : (if t590 = 0 then ((r11_Bytes.f kj13 l1).bind fun t594 => (if t586.length + t594.length < 140737488355328 then ((r01_Same.f t589 (t586 ++ t594)).bind fun t600 => (some t600)) else (none))) else (some ((t589.length : Int) == 0))) = some r := by rw [if_neg (show ¬ (false = true) by decide)] at H; exact H
        clear H
        have H := H1
        clear H1
        by_cases c21 : t590 = 0
        ·
         rw [if_pos c21] at H
         have c21b0 : (t590 == 0) = true := beq_iff_eq.mpr c21
         have c21b1 : (t590 != 0) = false := bne_eq_false_iff_eq.mpr c21
         clear c21
         replace H := Option.bind_eq_some_iff.mp H
         obtain ⟨t594, A220, H⟩ := H
         replace H : (if t586.length + t594.length < 140737488355328 then ((r01_Same.f t589 (t586 ++ t594)).bind fun t600 => (some t600)) else (none)) = some r := H
         have A22 := aM A220
         clear A220
         by_cases c23 : t586.length + t594.length < 140737488355328
         ·
          rw [if_pos c23] at H
          have LMc23 := aM c23
          clear c23
          obtain ⟨y597, hy597⟩ : ∃ y_ : List Int, y_ = (t586 ++ t594) := ⟨_, rfl⟩
          replace H : ((r01_Same.f t589 y597).bind fun t600 => (some t600)) = some r := by first | (rw [hy597]; with_reducible exact H) | (have H2_ := (Option.bind_some _ _).symm.trans H; rw [hy597]; with_reducible exact H2_) | (have H2_ := (Option.bind_some _ _).symm.trans H; with_reducible exact H2_) | with_reducible exact H | (rw [hy597]; exact H) | exact H
          have Ny597 := aM hy597
          clear hy597
          replace H := Option.bind_eq_some_iff.mp H
          obtain ⟨t600, A240, H⟩ := H
          replace H : (some t600) = some r := H
          have A24 := aM A240
          clear A240
          obtain rfl := Option.some.inj H
          go_wp2_with (first | ((with_reducible refine gate_callee (f := 12) rfl ?_); refine goesL_ (some 44) rfl rfl Try.func12 (by kernel_rfl) rfl #[.slice A1 l1.length c1] rfl (by (try simp only [List.map_toArray, List.map_cons, List.map_nil]); first | done | rfl | (simp only [List.length_drop, List.length_take]; rfl)) ?_; (with_reducible refine (r11_Bytes.calls kj13 _ _ l1 t594 _ ?side1 ?side2 A22.out).mono ?_); (case side1 => exact xC (Kd.C_below HR1.out HB.out)); (case side2 => exact HC1.out); rintro e w25 ⟨v595, rfl, ho0, hb⟩; refine ⟨_, rfl, ?_⟩; have n0_ := aM (Kd.R_elder' (xR HO_6.out) (Kd.R_base ho0) hb); have n1_ := aM (Kd.R_elder' (xR HO_7.out) (Kd.R_base ho0) hb); have n2_ := aM (Kd.R_lower (Kd.R_new' (Kd.R_new' ho0 (Kd.R_lt (xR HO_6.out))) (Kd.R_lt (xR HO_7.out))) (below_size (xB HB.out))); have n3_ := aM (below_step (xB HB.out) hb); clear HO_6; clear HO_7; clear HB; have HO_6 := n0_; have HO_7 := n1_; have HO596 := n2_; have HB := n3_; clear n0_ n1_ n2_ n3_; (try clear hb); (try clear hb2); (try clear hk); (try clear hi); (try clear ho0); obtain ⟨Ao27, co27, eo27⟩ := Kd.R_slice HO596.out; subst eo27) | ((with_reducible refine gate_builtin (b := .append) (xs := #[.tmp 42, .tmp 44]) rfl ?_); at_builtin; refine Kd.R_append_rows (Kd.int .u8) (w0 := w) w.heap.size rfl (.tmp 42) (.tmp 44) 22 5 (.int .u8 0) 1 rfl Try.underlying22 info5 rfl (by decide) (by omega) (.slice Ao16 t586.length co16) t586 t594 _ _ _ (fun k_ => some k_ ≠ (v591 : Value).ownBlock ∧ some k_ ≠ (.slice Ao27 t594.length co27 : Value).ownBlock) (fun _ => False) rfl rfl ?aO ?aR (fun _ _ h => h) (fun _ h => h.elim) ?aF ?aB ?aS ?aL ?_; (case aR => exact xC ((Kd.R_reads' HO596.out).2.2)); (case aB => exact (xB HB.out)); (case aF => exact (fun k_ hk => ⟨Kd.fresh' (Kd.R_lt (xR HO_7.out)) k_ hk, Kd.fresh' (Kd.R_lt (xR HO596.out)) k_ hk⟩)); (case aO => exact (xR HO_6.out)); (case aS => exact (below_size (xB HB.out))); (case aL => have := LMc23.out; omega); intro v598 w26 ho hb hg hat; rw [← Ny597.out] at ho; have n0_ := aM (Kd.R_after (ok := (fun k_ => some k_ ≠ (.slice Ao27 t594.length co27 : Value).ownBlock)) (by (with_reducible repeat (first | apply Kd.R_alloc | apply Kd.R_drewN | apply Kd.R_drew)); exact Kd.R_mono HO_7.out (fun _ hk => ⟨hk.2, hk.1⟩)) hg hat); have n1_ := aM (Kd.R_after (ok := (fun k_ => some k_ ≠ (v591 : Value).ownBlock)) (by (with_reducible repeat (first | apply Kd.R_alloc | apply Kd.R_drewN | apply Kd.R_drew)); exact Kd.R_mono HO596.out (fun _ hk => ⟨hk.2, hk.1.2⟩)) hg hat); have n2_ := aM (hb); have n3_ := aM (ho); clear HO_7; clear HO596; clear HB; clear HO_6; have HO_7 := n0_; have HO596 := n1_; have HB := n2_; have HO599 := n3_; clear n0_ n1_ n2_ n3_; clear ho hb hg hat; obtain ⟨Ao28, co28, eo28⟩ := Kd.R_slice HO_7.out; subst eo28; obtain ⟨Ao29, co29, eo29⟩ := Kd.R_slice HO599.out; subst eo29) | ((with_reducible refine gate_callee (f := 11) rfl ?_); refine goesL_ (some 46) rfl rfl Try.func11 (by kernel_rfl) rfl #[.slice Ao28 t589.length co28, .slice Ao29 y597.length co29] rfl (by (try simp only [List.map_toArray, List.map_cons, List.map_nil]); first | done | rfl | (simp only [List.length_drop, List.length_take]; rfl)) ?_; (with_reducible refine (r01_Same.calls _ _ t589 _ _ y597 t600 _ ?side1 ?side2 ?side3 ?side4 A24.out).mono ?_); (case side1 => exact xC ((Kd.R_reads' HO_7.out).2.2)); (case side2 => exact (Kd.R_reads' HO_7.out).2.1); (case side3 => exact xC ((Kd.R_reads' HO599.out).2.2)); (case side4 => exact (Kd.R_reads' HO599.out).2.1); rintro e w' ⟨rfl, ⟨nd, rfl⟩⟩; refine ⟨_, rfl, ?_⟩))
          go_ret
          exact ⟨by first | rfl | (simp [errW_none, errW_some] <;> rfl) | (simp [*, errW_none, errW_some] <;> rfl), xB HB.out⟩
         ·
          rw [if_neg c23] at H
          exact absurd H (by simp)
        ·
         rw [if_neg c21] at H
         have c21b0 : (t590 == 0) = false := beq_eq_false_iff_ne.mpr c21
         have c21b1 : (t590 != 0) = true := bne_iff_ne.mpr c21
         obtain rfl := Option.some.inj H
         obtain ⟨Ao30, co30, eo30⟩ := Kd.R_slice HO_7.out
         subst eo30
         go_wp2
         go_ret
         exact ⟨by first | rfl | (simp [errW_none, errW_some] <;> rfl) | (simp [*, errW_none, errW_some] <;> rfl), xB HB.out⟩
 ·
  replace c4 := Bool.eq_false_iff.mpr c4
  subst c4
  have H1 : (some false) = some r := by rw [if_neg (show ¬ (false = true) by decide)] at H; exact H
  clear H
  have H := H1
  clear H1
  obtain rfl := Option.some.inj H
  go_enter Try.func3, Try.ntmps3
  go_wp2_with (first | ((with_reducible refine gate_callee (f := 6) rfl ?_); refine goesL_ (some 9) rfl rfl Try.func6 (by kernel_rfl) rfl #[] rfl (by (try simp only [List.map_toArray, List.map_cons, List.map_nil]); first | done | rfl | (simp only [List.length_drop, List.length_take]; rfl)) ?_; (with_reducible refine (w11_alive.calls k  false _ A3.out).mono ?_); rintro e w31 ⟨rfl, hb⟩; refine ⟨_, rfl, ?_⟩; have n0_ := aM (below_step (xB HB.out) hb); clear HB; have HB := n0_; clear n0_; (try clear hb); (try clear hb2); (try clear hk); (try clear hi)))
  go_ret
  exact ⟨by first | rfl | (simp [errW_none, errW_some] <;> rfl) | (simp [*, errW_none, errW_some] <;> rfl), xB HB.out⟩
end Go.Proofs.Ythaifibhflfpkaa.Q
end
section
namespace Go.Proofs.Ythaifibhflfpkaa.Q
open Go.RowKit Go.Proofs.YthaifibhflfpkaaW.PrintWords Go.Proofs.YthaifibhflfpkaaW.PrintLast Go.Proofs.YthaifibhflfpkaaW.PrintMore Go.Proofs.YthaifibhflfpkaaX
namespace Law
theorem go_len (l : List Int) : ∀ f fr i out, fr ≤ i → i ≤ l.length → out.length ≤ 3 * fr → (lz_Pack.go l f fr i out).length ≤ 3 * l.length + 2
  | 0, fr, i, out, _, _, h => by
    rw [lz_Pack.go]
    omega
  | f + 1, fr, i, out, h1, h2, h3 => by
    rw [lz_Pack.go]
    by_cases h5 : i + 4 ≤ l.length
    · rw [if_pos h5]
      cases hq : lz_Pack.lastAt l i (lz_Pack.keyAt l i) with
      | none => exact go_len l f fr (i + 1) out (by omega) (by omega) h3
      | some q =>
        simp only
        have hrun := lz_Pack.run_le l i q.toNat l.length 4 (by omega)
        split
        · exact go_len l f fr (i + 1) out (by omega) (by omega) h3
        · refine go_len l f _ _ _ (Nat.le_refl _) (by omega) ?_
          have := lz_Pack.part_len ((l.take i).drop fr) (i - q.toNat) _ hrun.1
          simp only [List.length_append, List.length_drop, List.length_take] at this ⊢
          omega
    · rw [if_neg h5]
      have := lz_Pack.litT_len (l.drop fr) 0
      simp only [List.length_append, List.length_drop] at this ⊢
      omega
def lensT (l : List (List Int)) : List Nat := l.map List.length
def packT (l : List (List Int)) : List Int := lz_Pack.go l.flatten (l.flatten.length + 1) 0 0 []
def tableT (l : List (List Int)) : List ByteArray := sym_Train.train (sym_Train.winL l 1024)
def codeT (l : List (List Int)) : List Int := tabB (tableT l) ++ sym_Encode.enc (tableT l) l.flatten.length (strOfNums l.flatten)
def loadT (l : List (List Int)) : List Int := if (codeT l).length < (packT l).length then codeT l else packT l
def kindT (l : List (List Int)) : Int := if (codeT l).length < (packT l).length then 2 else 1
def granT (l : List (List Int)) : List Int := kindT l :: (numB l.length ++ blockT (lensT l)) ++ rowB (loadT l)
structure Lines (l : List (List Int)) (n : Nat) : Prop where
  one : 1 ≤ l.length
  most : l.length ≤ 16
  long : ∀ b ∈ l, b.length ≤ 65536
  byte : ∀ b ∈ l, ∀ x ∈ b, 0 ≤ x ∧ x < 256
  all : l.flatten.length ≤ n
theorem Lines.flat {l : List (List Int)} {n : Nat} (h : Lines l n) : ∀ x ∈ l.flatten, 0 ≤ x ∧ x < 256 := fun x hx => by
  obtain ⟨b, hb, hxb⟩ := List.mem_flatten.1 hx
  exact h.byte b hb x hxb
theorem Lines.lens {l : List (List Int)} {n : Nat} (h : Lines l n) : (lensT l).length = l.length ∧ ∀ x ∈ lensT l, x < 2 ^ 64 := by
  refine ⟨by simp [lensT], fun x hx => ?_⟩
  obtain ⟨b, hb, rfl⟩ := List.mem_map.1 hx
  have := h.long b hb
  omega
theorem codeT_len {l : List (List Int)} {n : Nat} (h : Lines l n) : (codeT l).length ≤ 600 + 2 * n := by
  have hok := train_okL l
  have h1 := rowsB_length (tableT l) (fun s hs => okT_size hok s hs)
  have h2 := enc_len (tableT l) l.flatten.length (strOfNums l.flatten)
  have h3 := (numB_length (tableT l).length).2 (by have := hok.1; unfold tableT; omega)
  have h4 : (tableT l).length ≤ 32 := hok.1
  have h5 := h.all
  unfold codeT tabB
  rw [List.length_append, List.length_append]
  omega
theorem packT_len (l : List (List Int)) : (packT l).length ≤ 3 * l.flatten.length + 2 := go_len _ _ 0 0 [] (Nat.le_refl _) (Nat.zero_le _) (by simp)
theorem loadT_len {l : List (List Int)} {n : Nat} (h : Lines l n) : (loadT l).length ≤ 600 + 3 * n := by
  have h1 := codeT_len h
  have h2 := packT_len l
  have h3 := h.all
  unfold loadT
  split <;> omega
theorem granT_len {l : List (List Int)} {n : Nat} (h : Lines l n) (hn : n ≤ 10000000) : (granT l).length ≤ 2700 + 3 * n := by
  have h1 := loadT_len h
  have h2 := (numB_length (loadT l).length).2 (by omega)
  have h3 := blockT_le (lensT l) (by rw [h.lens.1]; exact h.one) (by rw [h.lens.1]; have := h.most; omega) h.lens.2
  have h4 := (numB_length l.length).2 (by have := h.most; omega)
  unfold granT rowB
  simp only [List.length_cons, List.length_append]
  omega
theorem rdL1_at {l : List (List Int)} {b : List Int} {i : Nat} (h : l[i]? = some b) : rd_L1 l (i : Int) = b := by
  unfold rd_L1
  rw [Int.toNat_natCast, List.getD_eq_getElem?_getD, h]
  rfl
theorem joined_loop (l : List (List Int)) (hl : l.length < 1000000) : ∀ (r : List (List Int)) (i : Nat) (x : List Int) (y : List Nat), l.drop i = r → i ≤ l.length → y.length ≤ i → x.length + r.flatten.length < 1000000000000 → Ev (fun k => r11_joined.l0 k l x (ints y) (i : Int)) (x ++ r.flatten, ints (y ++ lensT r))
  | [], i, x, y, hd, hi, hy, hx => by
    have h1 : l.length ≤ i := List.drop_eq_nil_iff.1 hd
    refine Ev.step (fun k => by rw [r11_joined.l0]) ?_
    refine Ev.neg (by omega) ?_
    simpa [lensT] using Ev.now (x, ints y)
  | b :: r, i, x, y, hd, hi, hy, hx => by
    obtain ⟨hlt, hat, hr⟩ := drop_cons hd
    rw [List.flatten_cons, List.length_append] at hx
    have ih := joined_loop l hl r (i + 1) (x ++ b) (y ++ [b.length]) hr (by omega) (by simp; omega) (by rw [List.length_append]; omega)
    have HS := Lib.hid (w64_succ i (by omega))
    have HU := Lib.hid (wrapu b.length (by omega))
    refine Ev.step (fun k => by rw [r11_joined.l0, rdL1_at hat, HS.out, HU.out]) ?_
    refine Ev.pos (by omega) (Ev.pos (by omega) (Ev.pos (by omega) (Ev.pos (by rw [ints_length]; omega) ?_)))
    rw [← ints_snoc]
    simpa [lensT] using ih
theorem refbytes {l : List (List Int)} (h : Lines l 10000000) : Ev (fun k => r11_Bytes.f k l) (granT l) := by
  have hok := train_okL l
  have hall := h.all
  have hmost := h.most
  have hone := h.one
  have hj := joined_loop l (by omega) l 0 [] [] rfl (by omega) (by simp) (by simpa using (by omega : l.flatten.length < 1000000000000))
  have hj' : Ev (fun k => r11_joined.f k l) (l.flatten, ints (lensT l)) := by
    unfold r11_joined.f
    have e : ints [] = [] := rfl
    rw [e] at hj
    simpa using hj
  have hlist := reflist (lensT l) (by rw [h.lens.1]; exact hone) (by rw [h.lens.1]; omega) h.lens.2
  rw [h.lens.1] at hlist
  have hbl := blockT_le (lensT l) (by rw [h.lens.1]; exact hone) (by rw [h.lens.1]; omega) h.lens.2
  have hnl := (numB_length l.length).2 (by omega)
  have hcode := codeT_len h
  have hpack := packT_len l
  have hcl : (codeT l).length = (tabB (tableT l)).length + (sym_Encode.enc (tableT l) l.flatten.length (strOfNums l.flatten)).length := by
    unfold codeT
    rw [List.length_append]
  unfold r11_Bytes.f
  refine Ev.bind hj' (Ev.bind (pack h.flat (by show l.flatten.length < _; omega)) (Ev.bind (trainR l (by omega) (fun b hb => by have := h.long b hb; omega)) (Ev.bind (encode hok l.flatten h.flat (by show l.flatten.length < _; omega)) (Ev.bind (table (tableT l) (fun s hs => okT_size hok s hs) hok.1) (Ev.pos (by show (tabB (tableT l)).length + (sym_Encode.enc (tableT l) l.flatten.length (strOfNums l.flatten)).length < _; omega) (Ev.get rfl ?_))))))
  by_cases hc : (codeT l).length < (packT l).length
  · have hr := row (codeT l) (by omega)
    have hrl := (numB_length (codeT l).length).2 (by omega)
    refine Ev.pos (by exact_mod_cast hc) (Ev.get rfl (Ev.bind hlist (Ev.pos (by simp; omega) (Ev.get rfl (Ev.bind hr (Ev.pos (by simp [rowB]; omega) ?_))))))
    unfold granT kindT loadT
    rw [if_pos hc, if_pos hc]
    exact Ev.now _
  · have hr := row (packT l) (by omega)
    have hrl := (numB_length (packT l).length).2 (by omega)
    refine Ev.neg (by exact_mod_cast hc) (Ev.get rfl (Ev.bind hlist (Ev.pos (by simp; omega) (Ev.get rfl (Ev.bind hr (Ev.pos (by simp [rowB]; omega) ?_))))))
    unfold granT kindT loadT
    rw [if_neg hc, if_neg hc]
    exact Ev.now _
theorem put_loop1 (x0 : List Int) (l : List (List Int)) (hl : l.length ≤ 16) {R : List Int × Int} (hlong : ∀ b ∈ l, b.length ≤ 65536)
    (h : Ev (fun k => texts_Put.l0 k x0 l (ints (lensT l)) l (l.length : Int) (l.length : Int)) R) :
    ∀ (r p : List (List Int)), p ++ r = l → Ev (fun k => texts_Put.l0 k x0 l (ints (lensT p) ++ List.replicate r.length 0) l (l.length : Int) (p.length : Int)) R
  | [], p, hp => by
    rw [List.append_nil] at hp
    subst hp
    rw [List.length_nil, List.replicate_zero, List.append_nil]
    exact h
  | b :: r, p, hp => by
    have hlt : p.length < l.length := by rw [← hp]; simp
    have hat : l[p.length]? = some b := by rw [← hp]; simp
    have hb := hlong b (List.mem_of_getElem? hat)
    have ih := put_loop1 x0 l hl hlong h r (p ++ [b]) (by rw [← hp]; simp)
    rw [show ((p ++ [b]).length : Int) = ((p.length + 1 : Nat) : Int) by simp, show lensT (p ++ [b]) = lensT p ++ [b.length] by simp [lensT]] at ih
    have HU := Lib.hid (wrapu b.length (by omega))
    have HS := Lib.hid (w64_succ p.length (by omega))
    have hpl : p.length = (lensT p).length := by simp [lensT]
    have hset : (ints (lensT p) ++ List.replicate (r.length + 1) 0).set p.length (b.length : Int) = ints (lensT p ++ [b.length]) ++ List.replicate r.length 0 := by
      rw [hpl]
      exact set_next (lensT p) r.length _ b.length rfl
    have hlen : (ints (lensT p) ++ List.replicate (r.length + 1) 0).length = l.length := by
      rw [List.length_append, ints_length, List.length_replicate, ← hp]
      simp [lensT]
    refine Ev.step (fun k => by rw [texts_Put.l0, rdL1_at hat, HU.out, HS.out, Int.toNat_natCast, List.length_cons, hset, hlen]) ?_
    exact Ev.pos (by omega) (Ev.pos (by omega) (Ev.pos (by omega) (Ev.neg (by omega) (Ev.pos (by omega) ih))))
theorem putP {l : List (List Int)} (h : Lines l 300) (x0 : List Int) (hx0 : x0.length ≤ 140737488351232) : Ev (fun k => texts_Put.f k x0 l) (x0 ++ granT l, 0) := by
  have hok := train_okL l
  have hall := h.all
  have hmost := h.most
  have hone := h.one
  have hcode := codeT_len h
  have hpack := packT_len l
  have hcl : (codeT l).length = (tabB (tableT l)).length + (sym_Encode.enc (tableT l) l.flatten.length (strOfNums l.flatten)).length := by
    unfold codeT
    rw [List.length_append]
  have hbl := blockT_le (lensT l) (by rw [h.lens.1]; exact hone) (by rw [h.lens.1]; omega) h.lens.2
  have hnl := (numB_length l.length).2 (by omega)
  unfold texts_Put.f
  refine Ev.neg (by omega) ?_
  rw [decide_eq_false (by omega)]
  refine Ev.step (fun k => by rw [texts_Put.j0]) ?_
  refine Ev.neg (by decide) (Ev.pos (by omega) (Ev.pos (by omega) ?_))
  rw [Int.toNat_natCast]
  refine put_loop1 x0 l hmost h.long ?_ l [] rfl
  have hjoin : bytes_Join.f l [] = some l.flatten := by
    unfold bytes_Join.f
    rw [if_pos ⟨rfl, h.byte, by omega, by omega⟩]
  have hpk : lz_Pack.f l.flatten = some (packT l) := pack' (by omega)
  have htr : sym_Train.f l = some (tableT l) := trainP l (by omega)
  have hen : sym_Encode.f (tableT l) l.flatten = some (sym_Encode.enc (tableT l) l.flatten.length (strOfNums l.flatten), 0) := encode' hok l.flatten (by omega)
  have hW := Lib.hid (w64_nat (((tabB (tableT l)).length : Int) + ((sym_Encode.enc (tableT l) l.flatten.length (strOfNums l.flatten)).length : Int)) (codeT l).length (by omega) (by omega))
  refine Ev.step (fun k => by rw [texts_Put.l0]) ?_
  refine Ev.neg (by omega) (Ev.get hjoin (Ev.get hpk (Ev.get htr (Ev.bind (putTable (tableT l) (okT_f hok) (fun s hs => okT_size hok s hs) hok.1) (Ev.get hen ?_)))))
  simp only
  rw [hW.out]
  by_cases hc : (codeT l).length < (packT l).length
  · refine Ev.pos (by exact_mod_cast hc) (Ev.pos (by omega) (Ev.get (a := x0) (if_pos (by omega)) (Ev.pos (by omega) (Ev.bind (putList (lensT l) (by rw [h.lens.1]; exact hone) (by rw [h.lens.1]; omega) h.lens.2 (x0 ++ [2]) (by simp; omega)) (Ev.bind (putRow _ (codeT l) (by rw [h.lens.1]; simp; omega)) ?_)))))
    have e : x0 ++ granT l = x0 ++ [2] ++ (numB (lensT l).length ++ blockT (lensT l)) ++ rowB (codeT l) := by
      unfold granT kindT loadT
      rw [if_pos hc, if_pos hc, h.lens.1]
      simp
    rw [e]
    exact Ev.now _
  · refine Ev.neg (by exact_mod_cast hc) (Ev.get (a := x0) (if_pos (by omega)) (Ev.pos (by omega) (Ev.bind (putList (lensT l) (by rw [h.lens.1]; exact hone) (by rw [h.lens.1]; omega) h.lens.2 (x0 ++ [1]) (by simp; omega)) (Ev.bind (putRow _ (packT l) (by rw [h.lens.1]; simp; omega)) ?_))))
    have e : x0 ++ granT l = x0 ++ [1] ++ (numB (lensT l).length ++ blockT (lensT l)) ++ rowB (packT l) := by
      unfold granT kindT loadT
      rw [if_neg hc, if_neg hc, h.lens.1]
      simp
    rw [e]
    exact Ev.now _
end Law
namespace Law
theorem right_loop (l : List (List Int)) (hl : l.length ≤ 16) : ∀ (r : List (List Int)) (i : Nat), l.drop i = r → i ≤ l.length → Ev (fun k => r11_Right.l0 k l (i : Int)) (if ∀ b ∈ r, b.length ≤ 65536 then 0 else 5)
  | [], i, hd, hi => by
    have h1 : l.length ≤ i := List.drop_eq_nil_iff.1 hd
    refine Ev.step (fun k => by rw [r11_Right.l0]) ?_
    rw [if_pos (by simp)]
    exact Ev.neg (by omega) (Ev.now _)
  | b :: r, i, hd, hi => by
    obtain ⟨hlt, hat, hr⟩ := drop_cons hd
    have ih := right_loop l hl r (i + 1) hr (by omega)
    have HS := Lib.hid (w64_succ i (by omega))
    refine Ev.step (fun k => by rw [r11_Right.l0, rdL1_at hat, HS.out]) ?_
    refine Ev.pos (by omega) (Ev.pos (by omega) ?_)
    by_cases hb : b.length ≤ 65536
    · refine Ev.neg (by omega) ?_
      have e : (∀ x ∈ b :: r, x.length ≤ 65536) ↔ ∀ x ∈ r, x.length ≤ 65536 := by simp [hb]
      simp only [e]
      exact ih
    · refine Ev.pos (by omega) ?_
      rw [if_neg (fun h => hb (h b (by simp)))]
      exact Ev.now _
theorem right_few (l : List (List Int)) (h : ¬ (1 ≤ l.length ∧ l.length ≤ 16)) : Ev (fun k => r11_Right.f k l) 1 := by
  unfold r11_Right.f
  by_cases h1 : (l.length : Int) < 1
  · refine Ev.pos h1 ?_
    refine Ev.step (fun k => by rw [r11_Right.j0]) ?_
    exact Ev.pos rfl (Ev.now _)
  · refine Ev.neg h1 ?_
    rw [decide_eq_true (by omega)]
    refine Ev.step (fun k => by rw [r11_Right.j0]) ?_
    exact Ev.pos rfl (Ev.now _)
theorem right_some (l : List (List Int)) (h1 : 1 ≤ l.length) (h2 : l.length ≤ 16) : Ev (fun k => r11_Right.f k l) (if ∀ b ∈ l, b.length ≤ 65536 then 0 else 5) := by
  unfold r11_Right.f
  refine Ev.neg (by omega) ?_
  rw [decide_eq_false (by omega)]
  refine Ev.step (fun k => by rw [r11_Right.j0]) ?_
  exact Ev.neg (by decide) (right_loop l h2 l 0 rfl (by omega))
theorem great_loop (l : List (List Int)) (hl : l.length ≤ 16) (hlong : ∀ b ∈ l, b.length ≤ 65536) (m : Int) : ∀ (r : List (List Int)) (i n : Nat), l.drop i = r → i ≤ l.length → n ≤ 65536 * i → Ev (fun k => w11_great.l0 k l m (n : Int) (i : Int)) (decide (((n + r.flatten.length : Nat) : Int) > m))
  | [], i, n, hd, hi, hn => by
    have h1 : l.length ≤ i := List.drop_eq_nil_iff.1 hd
    refine Ev.step (fun k => by rw [w11_great.l0]) ?_
    refine Ev.neg (by omega) ?_
    exact Ev.now _
  | b :: r, i, n, hd, hi, hn => by
    obtain ⟨hlt, hat, hr⟩ := drop_cons hd
    have hb := hlong b (List.mem_of_getElem? hat)
    have ih := great_loop l hl hlong m r (i + 1) (n + b.length) hr (by omega) (by omega)
    have HS := Lib.hid (w64_succ i (by omega))
    have hmn : mn (b.length : Int) 1048576 = (b.length : Int) := by unfold mn; split <;> omega
    have HA := Lib.hid (w64_add n b.length (by omega) (by omega))
    refine Ev.step (fun k => by rw [w11_great.l0, rdL1_at hat, HS.out, hmn, HA.out]) ?_
    refine Ev.pos (by omega) (Ev.pos (by omega) (Ev.pos (by omega) ?_))
    rw [List.flatten_cons, List.length_append, ← Nat.add_assoc]
    exact ih
theorem great (l : List (List Int)) (hl : l.length ≤ 16) (hlong : ∀ b ∈ l, b.length ≤ 65536) (m : Int) : Ev (fun k => w11_great.f k l m) (decide ((l.flatten.length : Int) > m)) := by
  unfold w11_great.f
  have h := great_loop l hl hlong m l 0 0 rfl (by omega) (by omega)
  rw [Nat.zero_add] at h
  exact h
theorem put_few (x0 : List Int) (l : List (List Int)) (h : ¬ (1 ≤ l.length ∧ l.length ≤ 16)) : Ev (fun k => texts_Put.f k x0 l) ([], 1) := by
  unfold texts_Put.f
  by_cases h1 : (l.length : Int) < 1
  · refine Ev.pos h1 ?_
    refine Ev.step (fun k => by rw [texts_Put.j0]) ?_
    exact Ev.pos rfl (Ev.now _)
  · refine Ev.neg h1 ?_
    rw [decide_eq_true (by omega)]
    refine Ev.step (fun k => by rw [texts_Put.j0]) ?_
    exact Ev.pos rfl (Ev.now _)
theorem put_long_loop (x0 : List Int) (l : List (List Int)) (hl : l.length ≤ 16) : ∀ (r p : List (List Int)) (x6 : List Int), p ++ r = l → x6.length = l.length → (¬ ∀ b ∈ r, b.length ≤ 65536) → Ev (fun k => texts_Put.l0 k x0 l x6 l (l.length : Int) (p.length : Int)) ([], 5)
  | [], p, x6, hp, hx, hr => absurd (by simp) hr
  | b :: r, p, x6, hp, hx, hr => by
    have hlt : p.length < l.length := by rw [← hp]; simp
    have hat : l[p.length]? = some b := by rw [← hp]; simp
    have HS := Lib.hid (w64_succ p.length (by omega))
    refine Ev.step (fun k => by rw [texts_Put.l0, rdL1_at hat, HS.out]) ?_
    refine Ev.pos (by omega) (Ev.pos (by omega) (Ev.pos (by omega) ?_))
    by_cases hb : b.length ≤ 65536
    · have ih := put_long_loop x0 l hl r (p ++ [b]) (x6.set ((p.length : Int)).toNat (IntKind.u64.wrap ((b.length : Int)))) (by rw [← hp]; simp) (by simpa using hx) (fun h => hr (fun c hc => by
        rcases List.mem_cons.1 hc with rfl | hc
        · exact hb
        · exact h c hc))
      rw [show ((p ++ [b]).length : Int) = ((p.length + 1 : Nat) : Int) by simp] at ih
      exact Ev.neg (by omega) (Ev.pos (by omega) ih)
    · exact Ev.pos (by omega) (Ev.now _)
theorem put_long (x0 : List Int) (l : List (List Int)) (h1 : 1 ≤ l.length) (h2 : l.length ≤ 16) (hlong : ¬ ∀ b ∈ l, b.length ≤ 65536) : Ev (fun k => texts_Put.f k x0 l) ([], 5) := by
  unfold texts_Put.f
  refine Ev.neg (by omega) ?_
  rw [decide_eq_false (by omega)]
  refine Ev.step (fun k => by rw [texts_Put.j0]) ?_
  refine Ev.neg (by decide) (Ev.pos (by omega) (Ev.pos (by omega) ?_))
  exact put_long_loop x0 l h2 l [] _ rfl (by simp) hlong
theorem same (a : List Int) : r01_Same.f a a = some true := by
  unfold r01_Same.f
  simp
theorem copy (a : List Int) (h : a.length < 140737488355328) : r01_Copy.f a = some a := by
  unfold r01_Copy.f
  rw [Option.bind_some, if_pos (by simpa using h)]
  rfl
def abc : List (List Int) := [[97, 98, 99]]
theorem abc_lines : Lines abc 300 := ⟨by decide, by decide, by decide, by decide, by decide⟩
theorem abc_wins : sym_Train.winL abc 1024 = [[97, 98], [97, 98, 99], [98, 99]] := by decide
theorem abc_table : tableT abc = [] := by
  unfold tableT
  rw [abc_wins]
  unfold sym_Train.train
  have e : sym_Train.pieces [[97, 98], [97, 98, 99], [98, 99]] = [] := by decide
  rw [e]
  simp
theorem abc_gran : granT abc = [1, 1, 1, 3, 0, 0, 4, 48, 97, 98, 99] := by
  have e : codeT abc = [0, 255, 97, 255, 98, 255, 99] := by
    unfold codeT
    rw [abc_table]
    decide
  have e2 : packT abc = [48, 97, 98, 99] := by decide
  have e3 : kindT abc = 1 := by unfold kindT; rw [e, e2]; decide
  have e4 : loadT abc = [48, 97, 98, 99] := by unfold loadT; rw [e, e2]; decide
  unfold granT
  rw [e3, e4]
  decide
theorem alive11 : Ev (fun k => w11_alive.f k) true := by
  unfold w11_alive.f
  have h := putP abc_lines [] (by simp)
  rw [List.nil_append, abc_gran] at h
  exact Ev.bind h (Ev.pos rfl (Ev.get (same _) (Ev.now _)))
theorem puts_end (l0 : List Int) (hl0 : l0.length ≤ 140737488351232) (l1 : List (List Int)) (want : Int) {x : List Int} (hp : Ev (fun k => texts_Put.f k l0 l1) (x, want)) (hx : want ≠ 0 → x = []) (hb : want = 0 → Ev (fun k => r11_Bytes.f k l1) (granT l1) ∧ x = l0 ++ granT l1 ∧ (granT l1).length ≤ 4000) : Ev (fun k => w11_TextsPuts.j0 k l0 l1 want false) true := by
  refine Ev.step (fun k => by rw [w11_TextsPuts.j0]) ?_
  refine Ev.neg (by decide) (Ev.get (copy l0 (by omega)) (Ev.bind hp (Ev.get (same l0) (Ev.pos rfl ?_))))
  have e : (want != want) = false := by simp
  simp only
  rw [e]
  refine Ev.step (fun k => by rw [w11_TextsPuts.j1]) ?_
  refine Ev.neg (by decide) ?_
  by_cases h0 : want = 0
  · obtain ⟨h1, h2, h3⟩ := hb h0
    subst h2
    exact Ev.pos h0 (Ev.bind h1 (Ev.pos (by omega) (Ev.get (same _) (Ev.now _))))
  · have h1 := hx h0
    subst h1
    exact Ev.neg h0 (Ev.now _)
theorem puts (l0 : List Int) (hl0 : l0.length ≤ 140737488351232) (l1 : List (List Int)) (hb : ∀ b ∈ l1, ∀ x ∈ b, 0 ≤ x ∧ x < 256) : Ev (fun k => w11_TextsPuts.f k l0 l1) true := by
  unfold w11_TextsPuts.f
  refine Ev.bind alive11 (Ev.pos rfl ?_)
  by_cases h : 1 ≤ l1.length ∧ l1.length ≤ 16
  · have hr := right_some l1 h.1 h.2
    by_cases hlong : ∀ b ∈ l1, b.length ≤ 65536
    · rw [if_pos hlong] at hr
      refine Ev.bind hr (Ev.pos rfl (Ev.bind (great l1 h.2 hlong 300) ?_))
      by_cases hg : (l1.flatten.length : Int) > 300
      · rw [decide_eq_true hg]
        refine Ev.step (fun k => by rw [w11_TextsPuts.j0]) ?_
        exact Ev.pos rfl (Ev.now _)
      · rw [decide_eq_false hg]
        have hL : Lines l1 300 := ⟨h.1, h.2, hlong, hb, by omega⟩
        have hL2 : Lines l1 10000000 := ⟨h.1, h.2, hlong, hb, by omega⟩
        exact puts_end l0 hl0 l1 0 (putP hL l0 hl0) (fun h => absurd rfl h) (fun _ => ⟨refbytes hL2, rfl, by have := granT_len hL (by omega); omega⟩)
    · rw [if_neg hlong] at hr
      refine Ev.bind hr (Ev.neg (by decide) ?_)
      exact puts_end l0 hl0 l1 5 (put_long l0 l1 h.1 h.2 hlong) (fun _ => rfl) (fun h => absurd h (by decide))
  · refine Ev.bind (right_few l1 h) (Ev.neg (by decide) ?_)
    exact puts_end l0 hl0 l1 1 (put_few l0 l1 h) (fun _ => rfl) (fun h => absurd h (by decide))
end Law
end Go.Proofs.Ythaifibhflfpkaa.Q
end
section
namespace Go.Proofs.YthaifibhflfpkaaW.PrintWords
open Go.ChangeShapes Go.WideShapes
theorem sized_ints {H : Type} {enc : TypeId × Value → H} {P : Program} {W : World} {base : Nat} {spare : Nat → Bool} {held : Bool} {t e : TypeId} {k : IntKind} {a : Option Addr} {len cap : Nat} {d : DataW H} {ps : List MemPlace} {ts : List TypeId} {ds : List (DataW H)} {j : Nat}
    (hsz : (DataW.weightsEach P ts ds).all (· ≤ reachBytes) = true) (ht : ts[j]? = some t) (hd : ds[j]? = some d) (hu : P.underlying t = some (.slice e)) (he : P.underlying e = some (.int k)) (hc : P.cellsOf e = 1) {B : Nat} (hB : P.bytesOf e = B)
    (h : DataW.Trod enc P W base spare held t (.slice a len cap) d ps) : len * B ≤ 140737488351232 := by
  obtain ⟨fuel, hf⟩ := h
  rcases open_ints hu he hc hf with ⟨hcs, _⟩ | ⟨x, l, c, zs, hcs, _, hl, _, hz, hx, _, _⟩
  · simp [Value.cells] at hcs
    obtain ⟨rfl, rfl, rfl⟩ := hcs
    simp
  · simp [Value.cells] at hcs
    obtain ⟨rfl, rfl, rfl⟩ := hcs
    obtain ⟨hx, _⟩ := Prod.mk.inj hx
    subst hx
    have z := sized_slice hsz ht hd hu
    rw [hB] at z
    have hl2 : len ≤ zs.length := by
      rw [hz]
      split
      · exact hl
      · exact Nat.le_refl _
    have h1 : (lits (H := H) k (zs.take len)).length + (lits (H := H) k (zs.drop len)).length = zs.length := by
      simp [lits]
      omega
    rw [h1] at z
    exact Nat.le_trans (Nat.mul_le_mul_right _ hl2) z
end Go.Proofs.YthaifibhflfpkaaW.PrintWords
end
