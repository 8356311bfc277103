/- A part of the claim's own texts: words, walks and plain laws. -/
import Derived.Test.YthaifibhflfpkaaTb2
import Derived.Test.YthaifibhflfpkaaTb9
import Derived.Test.YthaifibhflfpkaaTb14
section
namespace Go.Proofs.Ythaifibhflfpkaa.Q
open Go.RowKit Go.Proofs.YthaifibhflfpkaaW.PrintWords Go.Proofs.YthaifibhflfpkaaW.PrintLast Go.Proofs.YthaifibhflfpkaaW.PrintMore Go.Proofs.YthaifibhflfpkaaX
attribute [local go_sem] max2_int min2_int max_two min_two max_three min_three max_four min_four   -- for this text's walks alone
set_option linter.unusedVariables false
set_option linter.unusedSimpArgs false
def w11_TextsBack.f (k : Nat) (l0 : List (List Int)) (l1 : List Int) : Option (Bool) := (w11_alive.f k).bind fun t860 => (if t860 = true then ((w11_great.f k l0 65536).bind fun t861 => (if t861 = true then (some true) else ((texts_Put.f k ([] : List Int) l0).bind fun bt862 => (if bt862.2 = 0 then ((r01_Copy.f bt862.1).bind fun t866 => (if t866.length + l1.length < 140737488355328 then ((texts_Take.f k (t866 ++ l1)).bind fun bt872 => (if bt872.2.2 = 0 then (if bt872.2.1 = (bt862.1.length : Int) then ((r01_Lists.f k bt872.1 l0).bind fun t877 => (some t877)) else (some false)) else (some false))) else (none))) else ((r11_Right.f k l0).bind fun t878 => (some (bt862.2 == t878))))))) else (some false))
set_option maxHeartbeats 8000000 in
set_option maxRecDepth 100000 in
theorem w11_TextsBack.calls (k : Nat) (A0 : Option Addr) (c0 : Nat) (l0 : List (List Int)) (A1 : Option Addr) (c1 : Nat) (l1 : List Int) (r : Bool) (w : World) (hr0 : Kd.C (Kd.slice 5 (Kd.int .u8)) w A0 l0.length l0) (hc0 : l0.length ≤ c0) (hr1 : Kd.C (Kd.int .u8) w A1 l1.length l1) (hc1 : l1.length ≤ c1) (h : w11_TextsBack.f k l0 l1 = some r) :
  Calls Try.prog 5 #[.slice A0 l0.length c0, .slice A1 l1.length c1] w fun e w' => e = .returned (.bool r) ∧ Below w.heap.size w w' := by
 have HR0 := aM hr0
 have HC0 := aM hc0
 clear hr0 hc0
 have HR1 := aM hr1
 have HC1 := aM hc1
 clear hr1 hc1
 have HB := aM (Below.refl w.heap.size w)
 have H : ((w11_alive.f k).bind fun t860 => (if t860 = true then ((w11_great.f k l0 65536).bind fun t861 => (if t861 = true then (some true) else ((texts_Put.f k ([] : List Int) l0).bind fun bt862 => (if bt862.2 = 0 then ((r01_Copy.f bt862.1).bind fun t866 => (if t866.length + l1.length < 140737488355328 then ((texts_Take.f k (t866 ++ l1)).bind fun bt872 => (if bt872.2.2 = 0 then (if bt872.2.1 = (bt862.1.length : Int) then ((r01_Lists.f k bt872.1 l0).bind fun t877 => (some t877)) else (some false)) else (some false))) else (none))) else ((r11_Right.f k l0).bind fun t878 => (some (bt862.2 == t878))))))) else (some false))) = some r := h
 clear h
 replace H := Option.bind_eq_some_iff.mp H
 obtain ⟨t860, A30, H⟩ := H
 replace H : (if t860 = true then ((w11_great.f k l0 65536).bind fun t861 => (if t861 = true then (some true) else ((texts_Put.f k ([] : List Int) l0).bind fun bt862 => (if bt862.2 = 0 then ((r01_Copy.f bt862.1).bind fun t866 => (if t866.length + l1.length < 140737488355328 then ((texts_Take.f k (t866 ++ l1)).bind fun bt872 => (if bt872.2.2 = 0 then (if bt872.2.1 = (bt862.1.length : Int) then ((r01_Lists.f k bt872.1 l0).bind fun t877 => (some t877)) else (some false)) else (some false))) else (none))) else ((r11_Right.f k l0).bind fun t878 => (some (bt862.2 == t878))))))) else (some false)) = some r := H
 have A3 := aM A30
 clear A30
 by_cases c4 : t860 = true
 ·
  subst c4
  have H1 : ((w11_great.f k l0 65536).bind fun t861 => (if t861 = true then (some true) else ((texts_Put.f k ([] : List Int) l0).bind fun bt862 => (if bt862.2 = 0 then ((r01_Copy.f bt862.1).bind fun t866 => (if t866.length + l1.length < 140737488355328 then ((texts_Take.f k (t866 ++ l1)).bind fun bt872 => (if bt872.2.2 = 0 then (if bt872.2.1 = (bt862.1.length : Int) then ((r01_Lists.f k bt872.1 l0).bind fun t877 => (some t877)) else (some false)) else (some false))) else (none))) else ((r11_Right.f k l0).bind fun t878 => (some (bt862.2 == t878))))))) = some r := by rw [if_pos rfl] at H; exact H
  clear H
  have H := H1
  clear H1
  replace H := Option.bind_eq_some_iff.mp H
  obtain ⟨t861, A50, H⟩ := H
  replace H : (if t861 = true then (some true) else ((texts_Put.f k ([] : List Int) l0).bind fun bt862 => (if bt862.2 = 0 then ((r01_Copy.f bt862.1).bind fun t866 => (if t866.length + l1.length < 140737488355328 then ((texts_Take.f k (t866 ++ l1)).bind fun bt872 => (if bt872.2.2 = 0 then (if bt872.2.1 = (bt862.1.length : Int) then ((r01_Lists.f k bt872.1 l0).bind fun t877 => (some t877)) else (some false)) else (some false))) else (none))) else ((r11_Right.f k l0).bind fun t878 => (some (bt862.2 == t878)))))) = some r := H
  have A5 := aM A50
  clear A50
  by_cases c6 : t861 = true
  ·
   subst c6
   have H1 : (some true) = some r := by rw [if_pos rfl] at H; exact H
   clear H
   have H := H1
   clear H1
   obtain rfl := Option.some.inj H
   go_enter Try.func5, Try.ntmps5
   go_wp2_with (first | ((with_reducible refine gate_callee (f := 6) rfl ?_); refine goesL_ (some 10) rfl rfl Try.func6 (by kernel_rfl) rfl #[] rfl (by (try simp only [List.map_toArray, List.map_cons, List.map_nil]); first | done | rfl | (simp only [List.length_drop, List.length_take]; rfl)) ?_; (with_reducible refine (w11_alive.calls k  true _ A3.out).mono ?_); rintro e w7 ⟨rfl, hb⟩; refine ⟨_, rfl, ?_⟩; have n0_ := aM (below_step (xB HB.out) hb); clear HB; have HB := n0_; clear n0_; (try clear hb); (try clear hb2); (try clear hk); (try clear hi)) | ((with_reducible refine gate_callee (f := 8) rfl ?_); refine goesL_ (some 13) rfl rfl Try.func8 (by kernel_rfl) rfl #[.slice A0 l0.length c0, .int .i64 65536] rfl (by (try simp only [List.map_toArray, List.map_cons, List.map_nil]); first | done | rfl | (simp only [List.length_drop, List.length_take]; rfl)) ?_; (with_reducible refine (w11_great.calls k _ _ l0 65536 true _ ?side1 ?side2 A5.out).mono ?_); (case side1 => exact xC (Kd.C_below HR0.out HB.out)); (case side2 => exact HC0.out); rintro e w8 ⟨rfl, hb⟩; refine ⟨_, rfl, ?_⟩; have n0_ := aM (below_step (xB HB.out) hb); clear HB; have HB := n0_; clear n0_; (try clear hb); (try clear hb2); (try clear hk); (try clear hi)))
   go_ret
   exact ⟨by first | rfl | (simp [errW_none, errW_some] <;> rfl) | (simp [*, errW_none, errW_some] <;> rfl), xB HB.out⟩
  ·
   replace c6 := Bool.eq_false_iff.mpr c6
   subst c6
   have H1 : ((texts_Put.f k ([] : List Int) l0).bind fun bt862 => (if bt862.2 = 0 then ((r01_Copy.f bt862.1).bind fun t866 => (if t866.length + l1.length < 140737488355328 then ((texts_Take.f k (t866 ++ l1)).bind fun bt872 => (if bt872.2.2 = 0 then (if bt872.2.1 = (bt862.1.length : Int) then ((r01_Lists.f k bt872.1 l0).bind fun t877 => (some t877)) else (some false)) else (some false))) else (none))) else ((r11_Right.f k l0).bind fun t878 => (some (bt862.2 == t878))))) = some r := by rw [if_neg (show ¬ (false = true) by decide)] at H; exact H
   clear H
   have H := H1
   clear H1
   replace H := Option.bind_eq_some_iff.mp H
   obtain ⟨⟨t862, t863⟩, A90, H⟩ := H
   replace H : (if t863 = 0 then ((r01_Copy.f t862).bind fun t866 => (if t866.length + l1.length < 140737488355328 then ((texts_Take.f k (t866 ++ l1)).bind fun bt872 => (if bt872.2.2 = 0 then (if bt872.2.1 = (t862.length : Int) then ((r01_Lists.f k bt872.1 l0).bind fun t877 => (some t877)) else (some false)) else (some false))) else (none))) else ((r11_Right.f k l0).bind fun t878 => (some (t863 == t878)))) = some r := H
   have A9 := aM A90
   clear A90
   by_cases c10 : t863 = 0
   ·
    rw [if_pos c10] at H
    have c10b0 : (t863 == 0) = true := beq_iff_eq.mpr c10
    have c10b1 : (t863 != 0) = false := bne_eq_false_iff_eq.mpr c10
    clear c10
    replace H := Option.bind_eq_some_iff.mp H
    obtain ⟨t866, A110, H⟩ := H
    replace H : (if t866.length + l1.length < 140737488355328 then ((texts_Take.f k (t866 ++ l1)).bind fun bt872 => (if bt872.2.2 = 0 then (if bt872.2.1 = (t862.length : Int) then ((r01_Lists.f k bt872.1 l0).bind fun t877 => (some t877)) else (some false)) else (some false))) else (none)) = some r := H
    have A11 := aM A110
    clear A110
    by_cases c12 : t866.length + l1.length < 140737488355328
    ·
     rw [if_pos c12] at H
     have LMc12 := aM c12
     clear c12
     obtain ⟨y869, hy869⟩ : ∃ y_ : List Int, y_ = (t866 ++ l1) := ⟨_, rfl⟩
     replace H : ((texts_Take.f k y869).bind fun bt872 => (if bt872.2.2 = 0 then (if bt872.2.1 = (t862.length : Int) then ((r01_Lists.f k bt872.1 l0).bind fun t877 => (some t877)) else (some false)) else (some false))) = some r := by first | (rw [hy869]; with_reducible exact H) | (have H2_ := (Option.bind_some _ _).symm.trans H; rw [hy869]; with_reducible exact H2_) | (have H2_ := (Option.bind_some _ _).symm.trans H; with_reducible exact H2_) | with_reducible exact H | (rw [hy869]; exact H) | exact H
     have Ny869 := aM hy869
     clear hy869
     replace H := Option.bind_eq_some_iff.mp H
     obtain ⟨⟨t872, t875, t876⟩, A130, H⟩ := H
     replace H : (if t876 = 0 then (if t875 = (t862.length : Int) then ((r01_Lists.f k t872 l0).bind fun t877 => (some t877)) else (some false)) else (some false)) = some r := H
     have A13 := aM A130
     clear A130
     by_cases c14 : t876 = 0
     ·
      rw [if_pos c14] at H
      have c14b0 : (t876 == 0) = true := beq_iff_eq.mpr c14
      have c14b1 : (t876 != 0) = false := bne_eq_false_iff_eq.mpr c14
      clear c14
      by_cases c15 : t875 = (t862.length : Int)
      ·
       rw [if_pos c15] at H
       have c15b0 : (t875 == (t862.length : Int)) = true := beq_iff_eq.mpr c15
       have c15b1 : (t875 != (t862.length : Int)) = false := bne_eq_false_iff_eq.mpr c15
       clear c15
       replace H := Option.bind_eq_some_iff.mp H
       obtain ⟨t877, A160, H⟩ := H
       replace H : (some t877) = some r := H
       have A16 := aM A160
       clear A160
       obtain rfl := Option.some.inj H
       go_enter Try.func5, Try.ntmps5
       go_wp2_with (first | ((with_reducible refine gate_callee (f := 6) rfl ?_); refine goesL_ (some 10) rfl rfl Try.func6 (by kernel_rfl) rfl #[] rfl (by (try simp only [List.map_toArray, List.map_cons, List.map_nil]); first | done | rfl | (simp only [List.length_drop, List.length_take]; rfl)) ?_; (with_reducible refine (w11_alive.calls k  true _ A3.out).mono ?_); rintro e w17 ⟨rfl, hb⟩; refine ⟨_, rfl, ?_⟩; have n0_ := aM (below_step (xB HB.out) hb); clear HB; have HB := n0_; clear n0_; (try clear hb); (try clear hb2); (try clear hk); (try clear hi)) | ((with_reducible refine gate_callee (f := 8) rfl ?_); refine goesL_ (some 13) rfl rfl Try.func8 (by kernel_rfl) rfl #[.slice A0 l0.length c0, .int .i64 65536] rfl (by (try simp only [List.map_toArray, List.map_cons, List.map_nil]); first | done | rfl | (simp only [List.length_drop, List.length_take]; rfl)) ?_; (with_reducible refine (w11_great.calls k _ _ l0 65536 false _ ?side1 ?side2 A5.out).mono ?_); (case side1 => exact xC (Kd.C_below HR0.out HB.out)); (case side2 => exact HC0.out); rintro e w18 ⟨rfl, hb⟩; refine ⟨_, rfl, ?_⟩; have n0_ := aM (below_step (xB HB.out) hb); clear HB; have HB := n0_; clear n0_; (try clear hb); (try clear hb2); (try clear hk); (try clear hi)) | ((with_reducible refine gate_callee (f := 10) rfl ?_); refine goesL_ (some 16) rfl rfl Try.func10 (by kernel_rfl) rfl #[.slice none 0 0, .slice A0 l0.length c0] rfl (by (try simp only [List.map_toArray, List.map_cons, List.map_nil]); first | done | rfl | (simp only [List.length_drop, List.length_take]; rfl)) ?_; (refine (texts_Put.calls k _ _ ([] : List Int) _ _ l0 t862 t863 _ ?side1 ?side2 ?side3 ?side4 A9.out).mono ?_); (case side1 => exact Kd.C_nil _ _); (case side2 => exact Nat.le_refl _); (case side3 => exact xC (Kd.C_below HR0.out HB.out)); (case side4 => exact HC0.out); rintro e w19 ⟨v864, rfl, ho0, hb⟩; refine ⟨_, rfl, ?_⟩; have n0_ := aM (Kd.R_lower ho0 (below_size (xB HB.out))); have n1_ := aM (below_step (xB HB.out) hb); clear HB; have HO865 := n0_; have HB := n1_; clear n0_ n1_; (try clear hb); (try clear hb2); (try clear hk); (try clear hi); (try clear ho0); obtain ⟨Ao20, co20, eo20⟩ := Kd.R_slice HO865.out; subst eo20) | ((with_reducible refine gate_callee (f := 9) rfl ?_); refine goesL_ (some 27) rfl rfl Try.func9 (by kernel_rfl) rfl #[.slice Ao20 t862.length co20] rfl (by (try simp only [List.map_toArray, List.map_cons, List.map_nil]); first | done | rfl | (simp only [List.length_drop, List.length_take]; rfl)) ?_; (with_reducible refine (r01_Copy.calls _ _ t862 t866 _ ?side1 ?side2 A11.out).mono ?_); (case side1 => exact xC ((Kd.R_reads' HO865.out).2.2)); (case side2 => exact (Kd.R_reads' HO865.out).2.1); rintro e w21 ⟨v867, rfl, ho0, hb⟩; refine ⟨_, rfl, ?_⟩; have n0_ := aM (Kd.R_elder' (xR HO865.out) (Kd.R_base ho0) hb); have n1_ := aM (Kd.R_lower (Kd.R_new' ho0 (Kd.R_lt (xR HO865.out))) (below_size (xB HB.out))); have n2_ := aM (below_step (xB HB.out) hb); clear HO865; clear HB; have HO865 := n0_; have HO868 := n1_; have HB := n2_; clear n0_ n1_ n2_; (try clear hb); (try clear hb2); (try clear hk); (try clear hi); (try clear ho0)) | ((with_reducible refine gate_builtin (b := .append) (xs := #[.tmp 27, .tmp 28]) rfl ?_); (try (refine gate_guard (by rfl) ?_; dsimp only)); at_builtin; refine Kd.R_append_rows (Kd.int .u8) (w0 := w) w.heap.size rfl (.tmp 27) (.tmp 28) 22 5 (.int .u8 0) 1 rfl Try.underlying22 info5 rfl (by decide) (by omega) v867 t866 l1 _ _ _ (fun k_ => some k_ ≠ (.slice Ao20 t862.length co20 : Value).ownBlock) (fun _ => False) rfl rfl ?aO ?aR (fun _ _ h => h) (fun _ h => h.elim) ?aF ?aB ?aS ?aL ?_; (case aR => exact xC (Kd.C_below HR1.out HB.out)); (case aB => exact (xB HB.out)); (case aF => exact (fun k_ hk => Kd.fresh' (Kd.R_lt (xR HO865.out)) k_ hk)); (case aO => exact (by (with_reducible repeat (first | apply Kd.R_alloc | apply Kd.R_drewN | apply Kd.R_drew)); exact Kd.R_mono HO868.out (fun _ hk => hk.2))); (case aS => exact (below_size (xB HB.out))); (case aL => have := LMc12.out; omega); intro v870 w22 ho hb hg hat; rw [← Ny869.out] at ho; have n0_ := aM (Kd.R_after (ok := (fun _ => True)) (xR HO865.out) hg hat); have n1_ := aM (hb); have n2_ := aM (ho); clear HO865; clear HB; clear HO868; have HO865 := n0_; have HB := n1_; have HO871 := n2_; clear n0_ n1_ n2_; clear ho hb hg hat; obtain ⟨Ao23, co23, eo23⟩ := Kd.R_slice HO871.out; subst eo23) | ((with_reducible refine gate_callee (f := 13) rfl ?_); refine goesL_ (some 30) rfl rfl Try.func13 (by kernel_rfl) rfl #[.slice Ao23 y869.length co23] rfl (by (try simp only [List.map_toArray, List.map_cons, List.map_nil]); first | done | rfl | (simp only [List.length_drop, List.length_take]; rfl)) ?_; (with_reducible refine (texts_Take.calls k _ _ y869 t872 t875 t876 _ ?side1 ?side2 A13.out).mono ?_); (case side1 => exact xC ((Kd.R_reads' HO871.out).2.2)); (case side2 => exact (Kd.R_reads' HO871.out).2.1); rintro e w24 ⟨v873, rfl, ho0, hb⟩; refine ⟨_, rfl, ?_⟩; have n0_ := aM (Kd.R_below (xR HO865.out) hb); have n1_ := aM (Kd.R_below (xR HO871.out) hb); have n2_ := aM (Kd.N_lower (Kd.N_mono (ok' := fun k_ => some k_ ≠ (.slice Ao20 t862.length co20 : Value).ownBlock ∧ some k_ ≠ (.slice Ao23 y869.length co23 : Value).ownBlock) ho0 (fun k_ hk_ => ⟨(Kd.fresh' (Kd.R_lt (xR HO865.out)) k_ hk_), (Kd.fresh' (Kd.R_lt (xR HO871.out)) k_ hk_)⟩)) (below_size (xB HB.out))); have n3_ := aM (below_step (xB HB.out) hb); clear HO865; clear HO871; clear HB; have HO865 := n0_; have HO871 := n1_; have HO874 := n2_; have HB := n3_; clear n0_ n1_ n2_ n3_; (try clear hb); (try clear hb2); (try clear hk); (try clear hi); (try clear ho0); obtain ⟨Ao25, co25, eo25⟩ := Kd.N_slice HO874.out; subst eo25) | (go_at_call 15; (with_reducible refine (r01_Lists.calls k _ _ t872 _ _ l0 t877 _ ?side1 ?side2 ?side3 ?side4 A16.out).mono ?_); (case side1 => exact xC ((Kd.N_reads' HO874.out).2.2)); (case side2 => exact (Kd.N_reads' HO874.out).2.1); (case side3 => exact xC (Kd.C_below HR0.out HB.out)); (case side4 => exact HC0.out); rintro e w' ⟨rfl, ⟨nd, rfl⟩⟩))
       go_ret
       exact ⟨by first | rfl | (simp [errW_none, errW_some] <;> rfl) | (simp [*, errW_none, errW_some] <;> rfl), xB HB.out⟩
      ·
       rw [if_neg c15] at H
       have c15b0 : (t875 == (t862.length : Int)) = false := beq_eq_false_iff_ne.mpr c15
       have c15b1 : (t875 != (t862.length : Int)) = true := bne_iff_ne.mpr c15
       obtain rfl := Option.some.inj H
       go_enter Try.func5, Try.ntmps5
       go_wp2_with (first | ((with_reducible refine gate_callee (f := 6) rfl ?_); refine goesL_ (some 10) rfl rfl Try.func6 (by kernel_rfl) rfl #[] rfl (by (try simp only [List.map_toArray, List.map_cons, List.map_nil]); first | done | rfl | (simp only [List.length_drop, List.length_take]; rfl)) ?_; (with_reducible refine (w11_alive.calls k  true _ A3.out).mono ?_); rintro e w26 ⟨rfl, hb⟩; refine ⟨_, rfl, ?_⟩; have n0_ := aM (below_step (xB HB.out) hb); clear HB; have HB := n0_; clear n0_; (try clear hb); (try clear hb2); (try clear hk); (try clear hi)) | ((with_reducible refine gate_callee (f := 8) rfl ?_); refine goesL_ (some 13) rfl rfl Try.func8 (by kernel_rfl) rfl #[.slice A0 l0.length c0, .int .i64 65536] rfl (by (try simp only [List.map_toArray, List.map_cons, List.map_nil]); first | done | rfl | (simp only [List.length_drop, List.length_take]; rfl)) ?_; (with_reducible refine (w11_great.calls k _ _ l0 65536 false _ ?side1 ?side2 A5.out).mono ?_); (case side1 => exact xC (Kd.C_below HR0.out HB.out)); (case side2 => exact HC0.out); rintro e w27 ⟨rfl, hb⟩; refine ⟨_, rfl, ?_⟩; have n0_ := aM (below_step (xB HB.out) hb); clear HB; have HB := n0_; clear n0_; (try clear hb); (try clear hb2); (try clear hk); (try clear hi)) | ((with_reducible refine gate_callee (f := 10) rfl ?_); refine goesL_ (some 16) rfl rfl Try.func10 (by kernel_rfl) rfl #[.slice none 0 0, .slice A0 l0.length c0] rfl (by (try simp only [List.map_toArray, List.map_cons, List.map_nil]); first | done | rfl | (simp only [List.length_drop, List.length_take]; rfl)) ?_; (refine (texts_Put.calls k _ _ ([] : List Int) _ _ l0 t862 t863 _ ?side1 ?side2 ?side3 ?side4 A9.out).mono ?_); (case side1 => exact Kd.C_nil _ _); (case side2 => exact Nat.le_refl _); (case side3 => exact xC (Kd.C_below HR0.out HB.out)); (case side4 => exact HC0.out); rintro e w28 ⟨v864, rfl, ho0, hb⟩; refine ⟨_, rfl, ?_⟩; have n0_ := aM (Kd.R_lower ho0 (below_size (xB HB.out))); have n1_ := aM (below_step (xB HB.out) hb); clear HB; have HO865 := n0_; have HB := n1_; clear n0_ n1_; (try clear hb); (try clear hb2); (try clear hk); (try clear hi); (try clear ho0); obtain ⟨Ao29, co29, eo29⟩ := Kd.R_slice HO865.out; subst eo29) | ((with_reducible refine gate_callee (f := 9) rfl ?_); refine goesL_ (some 27) rfl rfl Try.func9 (by kernel_rfl) rfl #[.slice Ao29 t862.length co29] rfl (by (try simp only [List.map_toArray, List.map_cons, List.map_nil]); first | done | rfl | (simp only [List.length_drop, List.length_take]; rfl)) ?_; (with_reducible refine (r01_Copy.calls _ _ t862 t866 _ ?side1 ?side2 A11.out).mono ?_); (case side1 => exact xC ((Kd.R_reads' HO865.out).2.2)); (case side2 => exact (Kd.R_reads' HO865.out).2.1); rintro e w30 ⟨v867, rfl, ho0, hb⟩; refine ⟨_, rfl, ?_⟩; have n0_ := aM (Kd.R_elder' (xR HO865.out) (Kd.R_base ho0) hb); have n1_ := aM (Kd.R_lower (Kd.R_new' ho0 (Kd.R_lt (xR HO865.out))) (below_size (xB HB.out))); have n2_ := aM (below_step (xB HB.out) hb); clear HO865; clear HB; have HO865 := n0_; have HO868 := n1_; have HB := n2_; clear n0_ n1_ n2_; (try clear hb); (try clear hb2); (try clear hk); (try clear hi); (try clear ho0)) | ((with_reducible refine gate_builtin (b := .append) (xs := #[.tmp 27, .tmp 28]) rfl ?_); (try (refine gate_guard (by rfl) ?_; dsimp only)); at_builtin; refine Kd.R_append_rows (Kd.int .u8) (w0 := w) w.heap.size rfl (.tmp 27) (.tmp 28) 22 5 (.int .u8 0) 1 rfl Try.underlying22 info5 rfl (by decide) (by omega) v867 t866 l1 _ _ _ (fun k_ => some k_ ≠ (.slice Ao29 t862.length co29 : Value).ownBlock) (fun _ => False) rfl rfl ?aO ?aR (fun _ _ h => h) (fun _ h => h.elim) ?aF ?aB ?aS ?aL ?_; (case aR => exact xC (Kd.C_below HR1.out HB.out)); (case aB => exact (xB HB.out)); (case aF => exact (fun k_ hk => Kd.fresh' (Kd.R_lt (xR HO865.out)) k_ hk)); (case aO => exact (by (with_reducible repeat (first | apply Kd.R_alloc | apply Kd.R_drewN | apply Kd.R_drew)); exact Kd.R_mono HO868.out (fun _ hk => hk.2))); (case aS => exact (below_size (xB HB.out))); (case aL => have := LMc12.out; omega); intro v870 w31 ho hb hg hat; rw [← Ny869.out] at ho; have n0_ := aM (Kd.R_after (ok := (fun _ => True)) (xR HO865.out) hg hat); have n1_ := aM (hb); have n2_ := aM (ho); clear HO865; clear HB; clear HO868; have HO865 := n0_; have HB := n1_; have HO871 := n2_; clear n0_ n1_ n2_; clear ho hb hg hat; obtain ⟨Ao32, co32, eo32⟩ := Kd.R_slice HO871.out; subst eo32) | ((with_reducible refine gate_callee (f := 13) rfl ?_); refine goesL_ (some 30) rfl rfl Try.func13 (by kernel_rfl) rfl #[.slice Ao32 y869.length co32] rfl (by (try simp only [List.map_toArray, List.map_cons, List.map_nil]); first | done | rfl | (simp only [List.length_drop, List.length_take]; rfl)) ?_; (with_reducible refine (texts_Take.calls k _ _ y869 t872 t875 t876 _ ?side1 ?side2 A13.out).mono ?_); (case side1 => exact xC ((Kd.R_reads' HO871.out).2.2)); (case side2 => exact (Kd.R_reads' HO871.out).2.1); rintro e w33 ⟨v873, rfl, ho0, hb⟩; refine ⟨_, rfl, ?_⟩; have n0_ := aM (Kd.R_below (xR HO865.out) hb); have n1_ := aM (Kd.R_below (xR HO871.out) hb); have n2_ := aM (Kd.N_lower (Kd.N_mono (ok' := fun k_ => some k_ ≠ (.slice Ao29 t862.length co29 : Value).ownBlock ∧ some k_ ≠ (.slice Ao32 y869.length co32 : Value).ownBlock) ho0 (fun k_ hk_ => ⟨(Kd.fresh' (Kd.R_lt (xR HO865.out)) k_ hk_), (Kd.fresh' (Kd.R_lt (xR HO871.out)) k_ hk_)⟩)) (below_size (xB HB.out))); have n3_ := aM (below_step (xB HB.out) hb); clear HO865; clear HO871; clear HB; have HO865 := n0_; have HO871 := n1_; have HO874 := n2_; have HB := n3_; clear n0_ n1_ n2_ n3_; (try clear hb); (try clear hb2); (try clear hk); (try clear hi); (try clear ho0)))
       go_ret
       exact ⟨by first | rfl | (simp [errW_none, errW_some] <;> rfl) | (simp [*, errW_none, errW_some] <;> rfl), xB HB.out⟩
     ·
      rw [if_neg c14] at H
      have c14b0 : (t876 == 0) = false := beq_eq_false_iff_ne.mpr c14
      have c14b1 : (t876 != 0) = true := bne_iff_ne.mpr c14
      obtain rfl := Option.some.inj H
      go_enter Try.func5, Try.ntmps5
      go_wp2_with (first | ((with_reducible refine gate_callee (f := 6) rfl ?_); refine goesL_ (some 10) rfl rfl Try.func6 (by kernel_rfl) rfl #[] rfl (by (try simp only [List.map_toArray, List.map_cons, List.map_nil]); first | done | rfl | (simp only [List.length_drop, List.length_take]; rfl)) ?_; (with_reducible refine (w11_alive.calls k  true _ A3.out).mono ?_); rintro e w34 ⟨rfl, hb⟩; refine ⟨_, rfl, ?_⟩; have n0_ := aM (below_step (xB HB.out) hb); clear HB; have HB := n0_; clear n0_; (try clear hb); (try clear hb2); (try clear hk); (try clear hi)) | ((with_reducible refine gate_callee (f := 8) rfl ?_); refine goesL_ (some 13) rfl rfl Try.func8 (by kernel_rfl) rfl #[.slice A0 l0.length c0, .int .i64 65536] rfl (by (try simp only [List.map_toArray, List.map_cons, List.map_nil]); first | done | rfl | (simp only [List.length_drop, List.length_take]; rfl)) ?_; (with_reducible refine (w11_great.calls k _ _ l0 65536 false _ ?side1 ?side2 A5.out).mono ?_); (case side1 => exact xC (Kd.C_below HR0.out HB.out)); (case side2 => exact HC0.out); rintro e w35 ⟨rfl, hb⟩; refine ⟨_, rfl, ?_⟩; have n0_ := aM (below_step (xB HB.out) hb); clear HB; have HB := n0_; clear n0_; (try clear hb); (try clear hb2); (try clear hk); (try clear hi)) | ((with_reducible refine gate_callee (f := 10) rfl ?_); refine goesL_ (some 16) rfl rfl Try.func10 (by kernel_rfl) rfl #[.slice none 0 0, .slice A0 l0.length c0] rfl (by (try simp only [List.map_toArray, List.map_cons, List.map_nil]); first | done | rfl | (simp only [List.length_drop, List.length_take]; rfl)) ?_; (refine (texts_Put.calls k _ _ ([] : List Int) _ _ l0 t862 t863 _ ?side1 ?side2 ?side3 ?side4 A9.out).mono ?_); (case side1 => exact Kd.C_nil _ _); (case side2 => exact Nat.le_refl _); (case side3 => exact xC (Kd.C_below HR0.out HB.out)); (case side4 => exact HC0.out); rintro e w36 ⟨v864, rfl, ho0, hb⟩; refine ⟨_, rfl, ?_⟩; have n0_ := aM (Kd.R_lower ho0 (below_size (xB HB.out))); have n1_ := aM (below_step (xB HB.out) hb); clear HB; have HO865 := n0_; have HB := n1_; clear n0_ n1_; (try clear hb); (try clear hb2); (try clear hk); (try clear hi); (try clear ho0); obtain ⟨Ao37, co37, eo37⟩ := Kd.R_slice HO865.out; subst eo37) | ((with_reducible refine gate_callee (f := 9) rfl ?_); refine goesL_ (some 27) rfl rfl Try.func9 (by kernel_rfl) rfl #[.slice Ao37 t862.length co37] rfl (by (try simp only [List.map_toArray, List.map_cons, List.map_nil]); first | done | rfl | (simp only [List.length_drop, List.length_take]; rfl)) ?_; (with_reducible refine (r01_Copy.calls _ _ t862 t866 _ ?side1 ?side2 A11.out).mono ?_); (case side1 => exact xC ((Kd.R_reads' HO865.out).2.2)); (case side2 => exact (Kd.R_reads' HO865.out).2.1); rintro e w38 ⟨v867, rfl, ho0, hb⟩; refine ⟨_, rfl, ?_⟩; have n0_ := aM (Kd.R_elder' (xR HO865.out) (Kd.R_base ho0) hb); have n1_ := aM (Kd.R_lower (Kd.R_new' ho0 (Kd.R_lt (xR HO865.out))) (below_size (xB HB.out))); have n2_ := aM (below_step (xB HB.out) hb); clear HO865; clear HB; have HO865 := n0_; have HO868 := n1_; have HB := n2_; clear n0_ n1_ n2_; (try clear hb); (try clear hb2); (try clear hk); (try clear hi); (try clear ho0)) | ((with_reducible refine gate_builtin (b := .append) (xs := #[.tmp 27, .tmp 28]) rfl ?_); (try (refine gate_guard (by rfl) ?_; dsimp only)); at_builtin; refine Kd.R_append_rows (Kd.int .u8) (w0 := w) w.heap.size rfl (.tmp 27) (.tmp 28) 22 5 (.int .u8 0) 1 rfl Try.underlying22 info5 rfl (by decide) (by omega) v867 t866 l1 _ _ _ (fun k_ => some k_ ≠ (.slice Ao37 t862.length co37 : Value).ownBlock) (fun _ => False) rfl rfl ?aO ?aR (fun _ _ h => h) (fun _ h => h.elim) ?aF ?aB ?aS ?aL ?_; (case aR => exact xC (Kd.C_below HR1.out HB.out)); (case aB => exact (xB HB.out)); (case aF => exact (fun k_ hk => Kd.fresh' (Kd.R_lt (xR HO865.out)) k_ hk)); (case aO => exact (by (with_reducible repeat (first | apply Kd.R_alloc | apply Kd.R_drewN | apply Kd.R_drew)); exact Kd.R_mono HO868.out (fun _ hk => hk.2))); (case aS => exact (below_size (xB HB.out))); (case aL => have := LMc12.out; omega); intro v870 w39 ho hb hg hat; rw [← Ny869.out] at ho; have n0_ := aM (Kd.R_after (ok := (fun _ => True)) (xR HO865.out) hg hat); have n1_ := aM (hb); have n2_ := aM (ho); clear HO865; clear HB; clear HO868; have HO865 := n0_; have HB := n1_; have HO871 := n2_; clear n0_ n1_ n2_; clear ho hb hg hat; obtain ⟨Ao40, co40, eo40⟩ := Kd.R_slice HO871.out; subst eo40) | ((with_reducible refine gate_callee (f := 13) rfl ?_); refine goesL_ (some 30) rfl rfl Try.func13 (by kernel_rfl) rfl #[.slice Ao40 y869.length co40] rfl (by (try simp only [List.map_toArray, List.map_cons, List.map_nil]); first | done | rfl | (simp only [List.length_drop, List.length_take]; rfl)) ?_; (with_reducible refine (texts_Take.calls k _ _ y869 t872 t875 t876 _ ?side1 ?side2 A13.out).mono ?_); (case side1 => exact xC ((Kd.R_reads' HO871.out).2.2)); (case side2 => exact (Kd.R_reads' HO871.out).2.1); rintro e w41 ⟨v873, rfl, ho0, hb⟩; refine ⟨_, rfl, ?_⟩; have n0_ := aM (Kd.R_below (xR HO865.out) hb); have n1_ := aM (Kd.R_below (xR HO871.out) hb); have n2_ := aM (Kd.N_lower (Kd.N_mono (ok' := fun k_ => some k_ ≠ (.slice Ao37 t862.length co37 : Value).ownBlock ∧ some k_ ≠ (.slice Ao40 y869.length co40 : Value).ownBlock) ho0 (fun k_ hk_ => ⟨(Kd.fresh' (Kd.R_lt (xR HO865.out)) k_ hk_), (Kd.fresh' (Kd.R_lt (xR HO871.out)) k_ hk_)⟩)) (below_size (xB HB.out))); have n3_ := aM (below_step (xB HB.out) hb); clear HO865; clear HO871; clear HB; have HO865 := n0_; have HO871 := n1_; have HO874 := n2_; have HB := n3_; clear n0_ n1_ n2_ n3_; (try clear hb); (try clear hb2); (try clear hk); (try clear hi); (try clear ho0)))
      go_ret
      exact ⟨by first | rfl | (simp [errW_none, errW_some] <;> rfl) | (simp [*, errW_none, errW_some] <;> rfl), xB HB.out⟩
    ·
     rw [if_neg c12] at H
     exact absurd H (by simp)
   ·
    rw [if_neg c10] at H
    have c10b0 : (t863 == 0) = false := beq_eq_false_iff_ne.mpr c10
    have c10b1 : (t863 != 0) = true := bne_iff_ne.mpr c10
    replace H := Option.bind_eq_some_iff.mp H
    obtain ⟨t878, A420, H⟩ := H
    replace H : (some (t863 == t878)) = some r := H
    have A42 := aM A420
    clear A420
    obtain rfl := Option.some.inj H
    go_enter Try.func5, Try.ntmps5
    go_wp2_with (first | ((with_reducible refine gate_callee (f := 6) rfl ?_); refine goesL_ (some 10) rfl rfl Try.func6 (by kernel_rfl) rfl #[] rfl (by (try simp only [List.map_toArray, List.map_cons, List.map_nil]); first | done | rfl | (simp only [List.length_drop, List.length_take]; rfl)) ?_; (with_reducible refine (w11_alive.calls k  true _ A3.out).mono ?_); rintro e w43 ⟨rfl, hb⟩; refine ⟨_, rfl, ?_⟩; have n0_ := aM (below_step (xB HB.out) hb); clear HB; have HB := n0_; clear n0_; (try clear hb); (try clear hb2); (try clear hk); (try clear hi)) | ((with_reducible refine gate_callee (f := 8) rfl ?_); refine goesL_ (some 13) rfl rfl Try.func8 (by kernel_rfl) rfl #[.slice A0 l0.length c0, .int .i64 65536] rfl (by (try simp only [List.map_toArray, List.map_cons, List.map_nil]); first | done | rfl | (simp only [List.length_drop, List.length_take]; rfl)) ?_; (with_reducible refine (w11_great.calls k _ _ l0 65536 false _ ?side1 ?side2 A5.out).mono ?_); (case side1 => exact xC (Kd.C_below HR0.out HB.out)); (case side2 => exact HC0.out); rintro e w44 ⟨rfl, hb⟩; refine ⟨_, rfl, ?_⟩; have n0_ := aM (below_step (xB HB.out) hb); clear HB; have HB := n0_; clear n0_; (try clear hb); (try clear hb2); (try clear hk); (try clear hi)) | ((with_reducible refine gate_callee (f := 10) rfl ?_); refine goesL_ (some 16) rfl rfl Try.func10 (by kernel_rfl) rfl #[.slice none 0 0, .slice A0 l0.length c0] rfl (by (try simp only [List.map_toArray, List.map_cons, List.map_nil]); first | done | rfl | (simp only [List.length_drop, List.length_take]; rfl)) ?_; (refine (texts_Put.calls k _ _ ([] : List Int) _ _ l0 t862 t863 _ ?side1 ?side2 ?side3 ?side4 A9.out).mono ?_); (case side1 => exact Kd.C_nil _ _); (case side2 => exact Nat.le_refl _); (case side3 => exact xC (Kd.C_below HR0.out HB.out)); (case side4 => exact HC0.out); rintro e w45 ⟨v864, rfl, ho0, hb⟩; refine ⟨_, rfl, ?_⟩; have n0_ := aM (Kd.R_lower ho0 (below_size (xB HB.out))); have n1_ := aM (below_step (xB HB.out) hb); clear HB; have HO865 := n0_; have HB := n1_; clear n0_ n1_; (try clear hb); (try clear hb2); (try clear hk); (try clear hi); (try clear ho0)) | ((with_reducible refine gate_callee (f := 7) rfl ?_); refine goesL_ (some 23) rfl rfl Try.func7 (by kernel_rfl) rfl #[.slice A0 l0.length c0] rfl (by (try simp only [List.map_toArray, List.map_cons, List.map_nil]); first | done | rfl | (simp only [List.length_drop, List.length_take]; rfl)) ?_; (with_reducible refine (r11_Right.calls k _ _ l0 t878 _ ?side1 ?side2 A42.out).mono ?_); (case side1 => exact xC (Kd.C_below HR0.out HB.out)); (case side2 => exact HC0.out); rintro e w' ⟨rfl, ⟨nd, rfl⟩⟩; refine ⟨_, rfl, ?_⟩))
    go_ret
    exact ⟨by first | rfl | (simp [errW_none, errW_some] <;> rfl) | (simp [*, errW_none, errW_some] <;> rfl), xB HB.out⟩
 ·
  replace c4 := Bool.eq_false_iff.mpr c4
  subst c4
  have H1 : (some false) = some r := by rw [if_neg (show ¬ (false = true) by decide)] at H; exact H
  clear H
  have H := H1
  clear H1
  obtain rfl := Option.some.inj H
  go_enter Try.func5, Try.ntmps5
  go_wp2_with (first | ((with_reducible refine gate_callee (f := 6) rfl ?_); refine goesL_ (some 10) rfl rfl Try.func6 (by kernel_rfl) rfl #[] rfl (by (try simp only [List.map_toArray, List.map_cons, List.map_nil]); first | done | rfl | (simp only [List.length_drop, List.length_take]; rfl)) ?_; (with_reducible refine (w11_alive.calls k  false _ A3.out).mono ?_); rintro e w46 ⟨rfl, hb⟩; refine ⟨_, rfl, ?_⟩; have n0_ := aM (below_step (xB HB.out) hb); clear HB; have HB := n0_; clear n0_; (try clear hb); (try clear hb2); (try clear hk); (try clear hi)))
  go_ret
  exact ⟨by first | rfl | (simp [errW_none, errW_some] <;> rfl) | (simp [*, errW_none, errW_some] <;> rfl), xB HB.out⟩
end Go.Proofs.Ythaifibhflfpkaa.Q
end
section
namespace Go.Proofs.Ythaifibhflfpkaa.Q
open Go.RowKit Go.Proofs.YthaifibhflfpkaaW.PrintWords Go.Proofs.YthaifibhflfpkaaW.PrintLast Go.Proofs.YthaifibhflfpkaaW.PrintMore Go.Proofs.YthaifibhflfpkaaX
namespace Law
theorem lists_loop (l : List (List Int)) (hl : l.length < 1000000) : ∀ (r : List (List Int)) (i : Nat), l.drop i = r → i ≤ l.length → Ev (fun k => r01_Lists.l0 k l l (i : Int)) true
  | [], i, hd, hi => by
    have h1 : l.length ≤ i := List.drop_eq_nil_iff.1 hd
    refine Ev.step (fun k => by rw [r01_Lists.l0]) ?_
    exact Ev.neg (by omega) (Ev.now _)
  | b :: r, i, hd, hi => by
    obtain ⟨hlt, hat, hr⟩ := drop_cons hd
    have ih := lists_loop l hl r (i + 1) hr (by omega)
    have HS := Lib.hid (w64_succ i (by omega))
    refine Ev.step (fun k => by rw [r01_Lists.l0, rdL1_at hat, HS.out]) ?_
    exact Ev.pos (by omega) (Ev.pos (by omega) (Ev.pos (by omega) (Ev.get (same b) (Ev.pos rfl ih))))
theorem lists (l : List (List Int)) (hl : l.length < 1000000) : Ev (fun k => r01_Lists.f k l l) true := by
  unfold r01_Lists.f
  exact Ev.pos rfl (lists_loop l hl l 0 rfl (by omega))
theorem great_many (l : List (List Int)) (m : Int) : ∃ b, Ev (fun k => w11_great.f k l m) b := by
  have key : ∀ (d i : Nat) (n : Int), i + d = 20 → ∃ b, Ev (fun k => w11_great.l0 k l m n (i : Int)) b := by
    intro d
    induction d with
    | zero =>
      intro i n hi
      by_cases h : (i : Int) < (l.length : Int)
      · refine ⟨decide (n > m), Ev.step (fun k => by rw [w11_great.l0]) (Ev.pos h (Ev.neg (by omega) (Ev.now _)))⟩
      · refine ⟨decide (n > m), Ev.step (fun k => by rw [w11_great.l0]) (Ev.neg h (Ev.now _))⟩
    | succ d ih =>
      intro i n hi
      have HS := Lib.hid (w64_succ i (by omega))
      by_cases h : (i : Int) < (l.length : Int)
      · obtain ⟨b, hb⟩ := ih (i + 1) (wrap64 (n + (mn ((rd_L1 l (i : Int)).length : Int) 1048576))) (by omega)
        refine ⟨b, Ev.step (fun k => by rw [w11_great.l0, HS.out]) (Ev.pos h (Ev.pos (by omega) (Ev.pos (by omega) hb)))⟩
      · refine ⟨decide (n > m), Ev.step (fun k => by rw [w11_great.l0]) (Ev.neg h (Ev.now _))⟩
  exact key 20 0 0 rfl
theorem back (l0 : List (List Int)) (hb : ∀ b ∈ l0, ∀ x ∈ b, 0 ≤ x ∧ x < 256) (l1 : List Int) (hl1 : l1.length + 300000 ≤ 140737488340000) : Ev (fun k => w11_TextsBack.f k l0 l1) true := by
  unfold w11_TextsBack.f
  refine Ev.bind alive11 (Ev.pos rfl ?_)
  by_cases h : 1 ≤ l0.length ∧ l0.length ≤ 16
  · have hr := right_some l0 h.1 h.2
    by_cases hlong : ∀ b ∈ l0, b.length ≤ 65536
    · rw [if_pos hlong] at hr
      refine Ev.bind (great l0 h.2 hlong 65536) ?_
      by_cases hg : (l0.flatten.length : Int) > 65536
      · rw [decide_eq_true hg]
        exact Ev.pos rfl (Ev.now _)
      · rw [decide_eq_false hg]
        have hL : Lines l0 65536 := ⟨h.1, h.2, hlong, hb, by omega⟩
        have hgl := granT_len hL (by omega)
        have hp := putG hL (Nat.le_refl _) [] (by decide) (by decide)
        rw [List.nil_append] at hp
        refine Ev.neg (by decide) (Ev.bind hp (Ev.pos rfl (Ev.get (copy _ (by simp only; omega)) (Ev.pos (by simp only; omega) (Ev.bind (takeP hL (Nat.le_refl _) l1 hl1) (Ev.pos rfl (Ev.pos rfl (Ev.bind (lists l0 (by omega)) (Ev.now _)))))))))
    · rw [if_neg hlong] at hr
      obtain ⟨b, hgr⟩ := great_many l0 65536
      refine Ev.bind hgr ?_
      cases b with
      | true => exact Ev.pos rfl (Ev.now _)
      | false => exact Ev.neg (by decide) (Ev.bind (put_long [] l0 h.1 h.2 hlong) (Ev.neg (by decide) (Ev.bind hr (Ev.now _))))
  · obtain ⟨b, hgr⟩ := great_many l0 65536
    refine Ev.bind hgr ?_
    cases b with
    | true => exact Ev.pos rfl (Ev.now _)
    | false => exact Ev.neg (by decide) (Ev.bind (put_few [] l0 h) (Ev.neg (by decide) (Ev.bind (right_few l0 h) (Ev.now _))))
end Law
end Go.Proofs.Ythaifibhflfpkaa.Q
end
