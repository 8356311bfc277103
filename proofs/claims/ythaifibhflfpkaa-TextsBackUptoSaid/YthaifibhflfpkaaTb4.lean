/- A part of the claim's own texts: words, walks and plain laws. -/
import Derived.Test.YthaifibhflfpkaaTb2
import Derived.Test.YthaifibhflfpkaaTb3
import Derived.Lib.ItoaNum
section
namespace Go.Proofs.Ythaifibhflfpkaa.Q
open Go.RowKit Go.Proofs.YthaifibhflfpkaaW.PrintWords Go.Proofs.YthaifibhflfpkaaW.PrintLast Go.Proofs.YthaifibhflfpkaaW.PrintMore Go.Proofs.YthaifibhflfpkaaX
attribute [local go_sem] max2_int min2_int max_two min_two max_three min_three max_four min_four   -- for this text's walks alone
set_option linter.unusedVariables false
set_option linter.unusedSimpArgs false
def slices_Grow_byte_byte.f (l0 : List Int) (a1 : Int) : Option (List Int) := if 0 ≤ a1 ∧ l0.length + a1.toNat ≤ 140737488355328 then some l0 else none
set_option maxHeartbeats 8000000 in
set_option maxRecDepth 100000 in
theorem slices_Grow_byte_byte.calls (P0_ : Nat → Prop) (u9000_ : Value) (l0 : List Int) (a1 : Int) (r : List Int) (w0 w : World) (hB : Below w0.heap.size w0 w) (ho0 : Kd.R (Kd.int .u8) 5 w w0.heap.size P0_ u9000_ l0) (h : slices_Grow_byte_byte.f l0 a1 = some r) :
  Calls Try.prog 73 #[u9000_, .int .i64 a1] w fun e w' => ∃ v0_ : Value, e = .returned (v0_) ∧ Kd.R (Kd.int .u8) 5 w' w0.heap.size (fun k_ => (P0_ k_ ∨ w.heap.size ≤ k_)) v0_ r ∧ Below w0.heap.size w0 w' ∧ Kept w w' (fun k_ => P0_ k_) := by
 unfold slices_Grow_byte_byte.f at h
 split at h
 case isFalse => exact absurd h (by simp)
 case isTrue hc =>
 obtain rfl := Option.some.inj h
 obtain ⟨ha, hl⟩ := hc
 obtain ⟨n, rfl⟩ := Int.eq_ofNat_of_zero_le ha
 simp only [Int.toNat_natCast] at hl
 obtain ⟨i0, hi0, hz0, hsz0, hby⟩ := info_parts info5
 -- the row: what it owns
 obtain ⟨cap, A, cs, hv, hlc, hcm, hcl, hnil, hcs, htk⟩ : ∃ (cap : Nat) (A : Option Addr) (cs : List Value), u9000_ = .slice A l0.length cap ∧ l0.length ≤ cap ∧ cap ≤ 9223372036854775807 ∧ cs.length = cap ∧ (A = none → cap = 0) ∧ (∀ a, A = some a → ∀ j v, cs[j]? = some v → w.cell? (a.add j) = some v) ∧ cs.take l0.length = encs (Value.int .u8) l0 := by
  have ho := Kd.own_of_R ho0
  rcases ho.2 with ⟨rfl, h0⟩ | ⟨g, cap, cur, rfl, hg, hh, h1, h2, h3, h4⟩
  ·
   have : l0 = [] := List.eq_nil_of_length_eq_zero h0
   subst this
   exact ⟨0, none, [], rfl, Nat.le_refl _, by omega, rfl, fun _ => rfl, fun a h => (by cases h), rfl⟩
  ·
   refine ⟨cap, _, cur.toList, rfl, h1, by simpa [maxLen] using h2, by simpa using h3, fun h => (by cases h), ?_, by simpa using h4⟩
   intro a ha j v hj
   injection ha with ha
   subst ha
   rw [add_plain]
   have hj' : cur[j]? = some v := by rw [← hj]; simp
   simp [World.cell?, hh, hj']
 by_cases hroom : l0.length + n ≤ cap
 ·
  subst hv
  refine (Any8.slices_Grow_room Try.grow73 A l0.length cap n w hlc hcm (by omega) hroom).mono ?_
  rintro e w' ⟨rfl, rfl⟩
  exact ⟨_, rfl, Kd.R_mono ho0 (fun _ hk => .inl hk), hB, Kept.refl _ _⟩
 ·
  subst hv
  refine (Any8.slices_Grow_grow Try.grow73 i0 (.int .u8 0) hi0 hz0 (by rw [hsz0]; decide) A l0.length cap n cs w hlc (by omega) (by rw [hby]; omega) (by omega) (by rw [hsz0]; omega) hnil hcs).mono ?_
  rw [show Try.grow73_ren.t 25 = 5 from rfl]
  rintro e w' ⟨rfl, rfl⟩
  have hge : l0.length + n ≤ grownCap w (l0.length + n) cap 5 := grownCap_ge w _ _ _
  have hle : grownCap w (l0.length + n) cap 5 ≤ maxLen := grownCap_le_maxLen w _ _ _ (by simp only [maxLen]; omega)
  have hb2 : Below w.heap.size w (w.drew.alloc (.cells (cs.toArray ++ Builtin.zeroCells (Value.int .u8 0).cells (l0.length + n - cap) ++ Builtin.zeroCells (Value.int .u8 0).cells (grownCap w (l0.length + n) cap 5 - (l0.length + n))) 5)) := below_alloc (below_drew (Below.refl _ _)) _
  refine ⟨_, rfl, Kd.R_of_own ⟨by simp [encs], .inr ⟨w.heap.size, _, _, rfl, hB.size, heap_alloc_new w.drew _, by omega, hle, ?_, ?_⟩⟩ (fun k hk => ?_), below_step hB hb2, ⟨hb2.size, fun i hi _ => hb2.block i hi⟩⟩
  ·
   have hz1 : (Value.int IntKind.u8 0).cells.size = 1 := rfl
   simp only [Array.size_append, List.size_toArray, size_zeroCells, hz1, hcl]
   omega
  ·
   have h5 : (cs.toArray ++ Builtin.zeroCells (Value.int .u8 0).cells (l0.length + n - cap) ++ Builtin.zeroCells (Value.int .u8 0).cells (grownCap w (l0.length + n) cap 5 - (l0.length + n))).toList.take (l0.length * 1) = cs.take l0.length := by
    rw [Nat.mul_one, Array.toList_append, Array.toList_append, List.append_assoc, List.take_append_of_le_length (by simpa using (by omega : l0.length ≤ cs.length))]
   rw [h5, htk]
  ·
   have : w.heap.size = k := by simpa [Value.ownBlock] using hk
   exact .inr (by omega)
def bits_Len64.f (a0 : Int) : Option Int := if 0 ≤ a0 ∧ a0 ≤ 18446744073709551615 then some (Lib.bitLen a0.toNat) else none
theorem bits_Len64.calls (a0 : Int) (r : Int) (w : World) (h : bits_Len64.f a0 = some r) :
  Calls Try.prog 103 #[.int .u64 a0] w fun e w' => e = .returned (.int .i64 r) ∧ Drawn0 w w' := by
 unfold bits_Len64.f at h
 split at h
 case isFalse => exact absurd h (by simp)
 case isTrue hc =>
 obtain rfl := Option.some.inj h
 refine (Try.bits_Len64 a0 w hc.1 hc.2).mono ?_
 rintro e w' ⟨rfl, rfl⟩
 exact ⟨rfl, Drawn0.refl _⟩
def num_size.f (a0 : Int) : Option (Int) := (bits_Len64.f a0).bind fun t123 => (some (wrap64 (Int.tdiv (wrap64 (t123 + 7)) 8)))
set_option maxHeartbeats 8000000 in
set_option maxRecDepth 100000 in
theorem num_size.calls (a0 : Int) (r : Int) (w : World) (h : num_size.f a0 = some r) :
  Calls Try.prog 74 #[.int .u64 a0] w fun e w' => e = .returned (.int .i64 r) ∧ Drawn0 w w' := by
 have H : ((bits_Len64.f a0).bind fun t123 => (some (wrap64 (Int.tdiv (wrap64 (t123 + 7)) 8)))) = some r := h
 clear h
 replace H := Option.bind_eq_some_iff.mp H
 obtain ⟨t123, A20, H⟩ := H
 replace H : (some (wrap64 (Int.tdiv (wrap64 (t123 + 7)) 8))) = some r := H
 have A2 := aM A20
 clear A20
 obtain rfl := Option.some.inj H
 go_enter Try.func74, Try.ntmps74
 go_wp2_with (first | ((with_reducible refine gate_callee (f := 103) rfl ?_); refine goesL_ (some 4) rfl rfl Try.func103 (by kernel_rfl) rfl #[.int .u64 a0] rfl (by (try simp only [List.map_toArray, List.map_cons, List.map_nil]); first | done | rfl | (simp only [List.length_drop, List.length_take]; rfl)) ?_; (with_reducible refine (bits_Len64.calls a0 t123 _ A2.out).mono ?_); rintro e w' ⟨rfl, ⟨nd, rfl⟩⟩; refine ⟨_, rfl, ?_⟩))
 go_ret
 exact ⟨by first | rfl | (simp; done) | (simp [*]; done), by repeat (first | exact Drawn0.refl _ | apply Drawn0.step)⟩
def num_Put.l0 : Nat → Int → List Int → Int → Int → Option (List Int)
 | 0, _, _, _, _ => none
 | k + 1, x1, x5, x25, x26 => if x26 < x25 then (if x5.length < 140737488355328 then (num_Put.l0 k (x1 / 256) (x5 ++ [(x1) % 256]) x25 (wrap64 (x26 + 1))) else (none)) else (some x5)
def num_Put.f (k : Nat) (l0 : List Int) (a1 : Int) : Option (List Int) := (slices_Clone_byte_byte.f l0).bind fun t124 => ((slices_Grow_byte_byte.f t124 9).bind fun t127 => (if a1 ≤ 247 then (if t127.length < 140737488355328 then (some (t127 ++ [(a1) % 256])) else (none)) else ((num_size.f a1).bind fun t133 => (if t127.length < 140737488355328 then (num_Put.l0 k a1 (t127 ++ [(wrap64 (247 + t133)) % 256]) t133 0) else (none)))))
set_option maxHeartbeats 8000000 in
set_option maxRecDepth 100000 in
theorem num_Put.calls (k : Nat) (A0 : Option Addr) (c0 : Nat) (l0 : List Int) (a1 : Int) (r : List Int) (w : World) (hr0 : Kd.C (Kd.int .u8) w A0 l0.length l0) (hc0 : l0.length ≤ c0) (h : num_Put.f k l0 a1 = some r) :
  Calls Try.prog 47 #[.slice A0 l0.length c0, .int .u64 a1] w fun e w' => ∃ v0_ : Value, e = .returned (v0_) ∧ Kd.R (Kd.int .u8) 5 w' w.heap.size (fun _ => True) v0_ r ∧ Below w.heap.size w w' := by
 have HR0 := aM hr0
 have HC0 := aM hc0
 clear hr0 hc0
 have HB := aM (Below.refl w.heap.size w)
 have H : ((slices_Clone_byte_byte.f l0).bind fun t124 => ((slices_Grow_byte_byte.f t124 9).bind fun t127 => (if a1 ≤ 247 then (if t127.length < 140737488355328 then (some (t127 ++ [(a1) % 256])) else (none)) else ((num_size.f a1).bind fun t133 => (if t127.length < 140737488355328 then (num_Put.l0 k a1 (t127 ++ [(wrap64 (247 + t133)) % 256]) t133 0) else (none)))))) = some r := h
 clear h
 replace H := Option.bind_eq_some_iff.mp H
 obtain ⟨t124, A30, H⟩ := H
 replace H : ((slices_Grow_byte_byte.f t124 9).bind fun t127 => (if a1 ≤ 247 then (if t127.length < 140737488355328 then (some (t127 ++ [(a1) % 256])) else (none)) else ((num_size.f a1).bind fun t133 => (if t127.length < 140737488355328 then (num_Put.l0 k a1 (t127 ++ [(wrap64 (247 + t133)) % 256]) t133 0) else (none))))) = some r := H
 have A3 := aM A30
 clear A30
 replace H := Option.bind_eq_some_iff.mp H
 obtain ⟨t127, A40, H⟩ := H
 replace H : (if a1 ≤ 247 then (if t127.length < 140737488355328 then (some (t127 ++ [(a1) % 256])) else (none)) else ((num_size.f a1).bind fun t133 => (if t127.length < 140737488355328 then (num_Put.l0 k a1 (t127 ++ [(wrap64 (247 + t133)) % 256]) t133 0) else (none)))) = some r := H
 have A4 := aM A40
 clear A40
 by_cases c5 : a1 ≤ 247
 ·
  rw [if_pos c5] at H
  have c5b0 : decide (a1 ≤ 247) = true := decide_eq_true c5
  clear c5
  by_cases c6 : t127.length < 140737488355328
  ·
   rw [if_pos c6] at H
   have LMc6 := aM c6
   clear c6
   obtain ⟨y130, hy130⟩ : ∃ y_ : List Int, y_ = (t127 ++ [(a1) % 256]) := ⟨_, rfl⟩
   replace H : (some y130) = some r := by first | (rw [hy130]; with_reducible exact H) | (have H2_ := (Option.bind_some _ _).symm.trans H; rw [hy130]; with_reducible exact H2_) | (have H2_ := (Option.bind_some _ _).symm.trans H; with_reducible exact H2_) | with_reducible exact H | (rw [hy130]; exact H) | exact H
   have Ny130 := aM hy130
   clear hy130
   obtain rfl := Option.some.inj H
   go_enter Try.func47, Try.ntmps47
   go_wp2_with (first | ((with_reducible refine gate_callee (f := 60) rfl ?_); refine goesL_ (some 8) rfl rfl Try.func60 (by kernel_rfl) rfl #[.slice A0 l0.length c0] rfl (by (try simp only [List.map_toArray, List.map_cons, List.map_nil]); first | done | rfl | (simp only [List.length_drop, List.length_take]; rfl)) ?_; (with_reducible refine (slices_Clone_byte_byte.calls _ _ l0 t124 _ ?side1 ?side2 A3.out).mono ?_); (case side1 => exact xC HR0.out); (case side2 => exact HC0.out); rintro e w7 ⟨v125, rfl, ho0, hb⟩; refine ⟨_, rfl, ?_⟩; have n0_ := aM (Kd.R_lower ho0 (below_size (xB HB.out))); have n1_ := aM (below_step (xB HB.out) hb); clear HB; have HO126 := n0_; have HB := n1_; clear n0_ n1_; (try clear hb); (try clear hb2); (try clear hk); (try clear hi); (try clear ho0); obtain ⟨Ao8, co8, eo8⟩ := Kd.R_slice HO126.out; subst eo8) | ((with_reducible refine gate_callee (f := 73) rfl ?_); refine goesL_ (some 9) rfl rfl Try.func73 (by kernel_rfl) rfl #[.slice Ao8 t124.length co8, .int .i64 9] rfl (by (try simp only [List.map_toArray, List.map_cons, List.map_nil]); first | done | rfl | (simp only [List.length_drop, List.length_take]; rfl)) ?_; (with_reducible refine (slices_Grow_byte_byte.calls (fun k_ => some k_ = (.slice Ao8 t124.length co8 : Value).ownBlock) (.slice Ao8 t124.length co8) t124 9 t127 w _ ?side1 ?side2 A4.out).mono ?_); (case side1 => repeat (first | (with_reducible first | exact HB.out | apply below_alloc | apply pw_below_drewN | apply below_drew1) | exact HB.out)); (case side2 => exact Kd.R_tight rfl HO126.out); rintro e w9 ⟨v128, rfl, ho0, hb, hkp⟩; refine ⟨_, rfl, ?_⟩; have n0_ := aM (Kd.R_mono (ok' := fun k_ => True) ho0 (fun k_ hk_ => trivial)); have n1_ := aM (hb); clear HB; clear HO126; have HO129 := n0_; have HB := n1_; clear n0_ n1_; (try clear hb); (try clear hkp); (try clear ho0)) | ((with_reducible refine gate_builtin (b := .append) (xs := #[.tmp 12, .tmp 15]) rfl ?_); at_builtin; refine Kd.R_append (Kd.int .u8) (w0 := w) w.heap.size rfl (.tmp 12) (.tmp 15) 22 5 (.int .u8 0) 1 rfl Try.underlying22 info5 rfl (by decide) (by omega) v128 t127 ((a1) % 256) [.int .u8 ((a1) % 256)] (fun _ => True) (fun _ => False) rfl rfl ?aP (fun _ hk => hk.elim) ?aF ?aO ?aB ?aS ?aL ?_; (case aP => exact rfl); (case aB => exact (xB HB.out)); (case aF => exact (fun _ _ => trivial)); (case aO => exact (xR HO129.out)); (case aS => exact (below_size (xB HB.out))); (case aL => have := LMc6.out; omega); intro v131 w10 ho hb hg hat; rw [← Ny130.out] at ho; have n0_ := aM (hb); have n1_ := aM (ho); clear HB; clear HO129; have HB := n0_; have HO132 := n1_; clear n0_ n1_; clear ho hb hg hat))
   go_ret
   exact ⟨_, by first | rfl | (simp [errW_none, errW_some] <;> rfl) | (simp [*, errW_none, errW_some] <;> rfl), by (with_reducible repeat (first | apply Kd.R_alloc | apply Kd.R_drewN | apply Kd.R_drew)); exact HO132.out, xB HB.out⟩
  ·
   rw [if_neg c6] at H
   exact absurd H (by simp)
 ·
  rw [if_neg c5] at H
  have c5b0 : decide (a1 ≤ 247) = false := decide_eq_false c5
  clear c5
  replace H := Option.bind_eq_some_iff.mp H
  obtain ⟨t133, A110, H⟩ := H
  replace H : (if t127.length < 140737488355328 then (num_Put.l0 k a1 (t127 ++ [(wrap64 (247 + t133)) % 256]) t133 0) else (none)) = some r := H
  have A11 := aM A110
  clear A110
  by_cases c12 : t127.length < 140737488355328
  ·
   rw [if_pos c12] at H
   have LMc12 := aM c12
   clear c12
   obtain ⟨y134, hy134⟩ : ∃ y_ : List Int, y_ = (t127 ++ [(wrap64 (247 + t133)) % 256]) := ⟨_, rfl⟩
   replace H : (num_Put.l0 k a1 y134 t133 0) = some r := by first | (rw [hy134]; with_reducible exact H) | (have H2_ := (Option.bind_some _ _).symm.trans H; rw [hy134]; with_reducible exact H2_) | (have H2_ := (Option.bind_some _ _).symm.trans H; with_reducible exact H2_) | with_reducible exact H | (rw [hy134]; exact H) | exact H
   have Ny134 := aM hy134
   clear hy134
   have H' := aM H
   clear H
   go_enter Try.func47, Try.ntmps47
   go_wp2_with (first | ((with_reducible refine gate_callee (f := 60) rfl ?_); refine goesL_ (some 8) rfl rfl Try.func60 (by kernel_rfl) rfl #[.slice A0 l0.length c0] rfl (by (try simp only [List.map_toArray, List.map_cons, List.map_nil]); first | done | rfl | (simp only [List.length_drop, List.length_take]; rfl)) ?_; (with_reducible refine (slices_Clone_byte_byte.calls _ _ l0 t124 _ ?side1 ?side2 A3.out).mono ?_); (case side1 => exact xC HR0.out); (case side2 => exact HC0.out); rintro e w13 ⟨v125, rfl, ho0, hb⟩; refine ⟨_, rfl, ?_⟩; have n0_ := aM (Kd.R_lower ho0 (below_size (xB HB.out))); have n1_ := aM (below_step (xB HB.out) hb); clear HB; have HO126 := n0_; have HB := n1_; clear n0_ n1_; (try clear hb); (try clear hb2); (try clear hk); (try clear hi); (try clear ho0); obtain ⟨Ao14, co14, eo14⟩ := Kd.R_slice HO126.out; subst eo14) | ((with_reducible refine gate_callee (f := 73) rfl ?_); refine goesL_ (some 9) rfl rfl Try.func73 (by kernel_rfl) rfl #[.slice Ao14 t124.length co14, .int .i64 9] rfl (by (try simp only [List.map_toArray, List.map_cons, List.map_nil]); first | done | rfl | (simp only [List.length_drop, List.length_take]; rfl)) ?_; (with_reducible refine (slices_Grow_byte_byte.calls (fun k_ => some k_ = (.slice Ao14 t124.length co14 : Value).ownBlock) (.slice Ao14 t124.length co14) t124 9 t127 w _ ?side1 ?side2 A4.out).mono ?_); (case side1 => repeat (first | (with_reducible first | exact HB.out | apply below_alloc | apply pw_below_drewN | apply below_drew1) | exact HB.out)); (case side2 => exact Kd.R_tight rfl HO126.out); rintro e w15 ⟨v128, rfl, ho0, hb, hkp⟩; refine ⟨_, rfl, ?_⟩; have n0_ := aM (Kd.R_mono (ok' := fun k_ => True) ho0 (fun k_ hk_ => trivial)); have n1_ := aM (hb); clear HB; clear HO126; have HO129 := n0_; have HB := n1_; clear n0_ n1_; (try clear hb); (try clear hkp); (try clear ho0)) | ((with_reducible refine gate_callee (f := 74) rfl ?_); refine goesL_ (some 18) rfl rfl Try.func74 (by kernel_rfl) rfl #[.int .u64 a1] rfl (by (try simp only [List.map_toArray, List.map_cons, List.map_nil]); first | done | rfl | (simp only [List.length_drop, List.length_take]; rfl)) ?_; (with_reducible refine (num_size.calls a1 t133 _ A11.out).mono ?_); rintro e w' ⟨rfl, ⟨nd, rfl⟩⟩; refine ⟨_, rfl, ?_⟩) | ((with_reducible refine gate_builtin (b := .append) (xs := #[.tmp 19, .tmp 23]) rfl ?_); at_builtin; refine Kd.R_append (Kd.int .u8) (w0 := w) w.heap.size rfl (.tmp 19) (.tmp 23) 22 5 (.int .u8 0) 1 rfl Try.underlying22 info5 rfl (by decide) (by omega) v128 t127 ((wrap64 (247 + t133)) % 256) [.int .u8 ((wrap64 (247 + t133)) % 256)] (fun _ => True) (fun _ => False) rfl rfl ?aP (fun _ hk => hk.elim) ?aF ?aO ?aB ?aS ?aL ?_; (case aP => exact rfl); (case aB => exact (xB HB.out)); (case aF => exact (fun _ _ => trivial)); (case aO => exact (xR HO129.out)); (case aS => exact (below_size (xB HB.out))); (case aL => have := LMc12.out; omega); intro v135 w16 ho hb hg hat; rw [← Ny134.out] at ho; have n0_ := aM (hb); have n1_ := aM (ho); clear HB; clear HO129; have HB := n0_; have HO136 := n1_; clear n0_ n1_; clear ho hb hg hat))
   go_loopg [1, 5, 26] k (fun kq v1 v5 v26 w' => ∃ (x1_1 : Int) (x5_1 : List Int) (x26_1 : Int), v1 = .int .u64 x1_1 ∧ v26 = .int .i64 x26_1 ∧ Aside0 (num_Put.l0 kq x1_1 x5_1 t133 x26_1 = some r) ∧ Aside0 (kq ≤ k) ∧ Aside0 (Kd.R (Kd.int .u8) 5 w' w.heap.size (fun _ => True) v5 x5_1) ∧ Aside0 (Below w.heap.size w w'))
   case atStart => exact ⟨(a1), (y134), (0), (by first | rfl | (simp; done) | (simp [*]; done)), (by first | rfl | (simp; done) | (simp [*]; done)), H', ⟨Nat.le_refl _⟩, ⟨by (with_reducible repeat (first | apply Kd.R_alloc | apply Kd.R_drewN | apply Kd.R_drew)); exact HO136.out⟩, ⟨xB HB.out⟩⟩
   case round =>
    clear H'
    try clear c1
    try clear p2
    try clear c4
    try clear c5
    try clear c5b0
    try clear c6
    try clear p6
    try clear c7
    try clear c12
    obtain ⟨x1_1, x5_1, x26_1, rfl, rfl, HA, HK1, HO_5, HB⟩ := hrel
    cases gk with
    | zero => exact absurd HA.out (by simp [num_Put.l0])
    | succ k1 =>
     have H := HA.out
     clear HA
     simp only [num_Put.l0] at H
     by_cases c17 : x26_1 < t133
     ·
      rw [if_pos c17] at H
      have c17b0 : decide (x26_1 < t133) = true := decide_eq_true c17
      clear c17
      by_cases c18 : x5_1.length < 140737488355328
      ·
       rw [if_pos c18] at H
       have LMc18 := aM c18
       clear c18
       obtain ⟨y137, hy137⟩ : ∃ y_ : List Int, y_ = (x5_1 ++ [(x1_1) % 256]) := ⟨_, rfl⟩
       replace H : (num_Put.l0 k1 (x1_1 / 256) y137 t133 (wrap64 (x26_1 + 1))) = some r := by first | (rw [hy137]; with_reducible exact H) | (have H2_ := (Option.bind_some _ _).symm.trans H; rw [hy137]; with_reducible exact H2_) | (have H2_ := (Option.bind_some _ _).symm.trans H; with_reducible exact H2_) | with_reducible exact H | (rw [hy137]; exact H) | exact H
       have Ny137 := aM hy137
       clear hy137
       have H' := aM H
       clear H
       go_wp2_with (first | ((with_reducible refine gate_builtin (b := .append) (xs := #[.tmp 28, .tmp 31]) rfl ?_); at_builtin; refine Kd.R_append (Kd.int .u8) (w0 := w) w.heap.size rfl (.tmp 28) (.tmp 31) 22 5 (.int .u8 0) 1 rfl Try.underlying22 info5 rfl (by decide) (by omega) u5 x5_1 ((x1_1) % 256) [.int .u8 ((x1_1) % 256)] (fun _ => True) (fun _ => False) rfl rfl ?aP (fun _ hk => hk.elim) ?aF ?aO ?aB ?aS ?aL ?_; (case aP => exact rfl); (case aB => exact (xB HB.out)); (case aF => exact (fun _ _ => trivial)); (case aO => exact (xR HO_5.out)); (case aS => exact (below_size (xB HB.out))); (case aL => have := LMc18.out; omega); intro v138 w19 ho hb hg hat; rw [← Ny137.out] at ho; have n0_ := aM (hb); have n1_ := aM (ho); clear HB; clear HO_5; have HB := n0_; have HO139 := n1_; clear n0_ n1_; clear ho hb hg hat))
       go_roundg k1
       case measure => have := HK1.out; omega
       case rel => exact ⟨(x1_1 / 256), (y137), (wrap64 (x26_1 + 1)), (by first | rfl | (simp; done) | (simp [*]; done)), (by first | rfl | (simp; done) | (simp [*]; done)), H', ⟨by have := HK1.out; omega⟩, ⟨by (with_reducible repeat (first | apply Kd.R_alloc | apply Kd.R_drewN | apply Kd.R_drew)); exact HO139.out⟩, ⟨xB HB.out⟩⟩
      ·
       rw [if_neg c18] at H
       exact absurd H (by simp)
     ·
      rw [if_neg c17] at H
      have c17b0 : decide (x26_1 < t133) = false := decide_eq_false c17
      clear c17
      obtain rfl := Option.some.inj H
      go_wp2
      go_ret
      exact ⟨_, by first | rfl | (simp [errW_none, errW_some] <;> rfl) | (simp [*, errW_none, errW_some] <;> rfl), by (with_reducible repeat (first | apply Kd.R_alloc | apply Kd.R_drewN | apply Kd.R_drew)); exact HO_5.out, xB HB.out⟩
  ·
   rw [if_neg c12] at H
   exact absurd H (by simp)
def num_PutRow.f (k : Nat) (l0 : List Int) (l1 : List Int) : Option (List Int) := (num_Put.f k l0 (IntKind.u64.wrap ((l1.length : Int)))).bind fun t140 => (if t140.length + l1.length < 140737488355328 then (some (t140 ++ l1)) else (none))
set_option maxHeartbeats 8000000 in
set_option maxRecDepth 100000 in
theorem num_PutRow.calls (k : Nat) (A0 : Option Addr) (c0 : Nat) (l0 : List Int) (A1 : Option Addr) (c1 : Nat) (l1 : List Int) (r : List Int) (w : World) (hr0 : Kd.C (Kd.int .u8) w A0 l0.length l0) (hc0 : l0.length ≤ c0) (hr1 : Kd.C (Kd.int .u8) w A1 l1.length l1) (hc1 : l1.length ≤ c1) (h : num_PutRow.f k l0 l1 = some r) :
  Calls Try.prog 22 #[.slice A0 l0.length c0, .slice A1 l1.length c1] w fun e w' => ∃ v0_ : Value, e = .returned (v0_) ∧ Kd.R (Kd.int .u8) 5 w' w.heap.size (fun _ => True) v0_ r ∧ Below w.heap.size w w' := by
 have HR0 := aM hr0
 have HC0 := aM hc0
 clear hr0 hc0
 have HR1 := aM hr1
 have HC1 := aM hc1
 clear hr1 hc1
 have HB := aM (Below.refl w.heap.size w)
 have H : ((num_Put.f k l0 (IntKind.u64.wrap ((l1.length : Int)))).bind fun t140 => (if t140.length + l1.length < 140737488355328 then (some (t140 ++ l1)) else (none))) = some r := h
 clear h
 replace H := Option.bind_eq_some_iff.mp H
 obtain ⟨t140, A30, H⟩ := H
 replace H : (if t140.length + l1.length < 140737488355328 then (some (t140 ++ l1)) else (none)) = some r := H
 have A3 := aM A30
 clear A30
 by_cases c4 : t140.length + l1.length < 140737488355328
 ·
  rw [if_pos c4] at H
  have LMc4 := aM c4
  clear c4
  obtain ⟨y143, hy143⟩ : ∃ y_ : List Int, y_ = (t140 ++ l1) := ⟨_, rfl⟩
  replace H : (some y143) = some r := by first | (rw [hy143]; with_reducible exact H) | (have H2_ := (Option.bind_some _ _).symm.trans H; rw [hy143]; with_reducible exact H2_) | (have H2_ := (Option.bind_some _ _).symm.trans H; with_reducible exact H2_) | with_reducible exact H | (rw [hy143]; exact H) | exact H
  have Ny143 := aM hy143
  clear hy143
  obtain rfl := Option.some.inj H
  go_enter Try.func22, Try.ntmps22
  go_wp2_with (first | ((with_reducible refine gate_callee (f := 47) rfl ?_); refine goesL_ (some 9) rfl rfl Try.func47 (by kernel_rfl) rfl #[.slice A0 l0.length c0, .int .u64 (IntKind.u64.wrap ((l1.length : Int)))] rfl (by (try simp only [List.map_toArray, List.map_cons, List.map_nil]); first | done | rfl | (simp only [List.length_drop, List.length_take]; rfl)) ?_; (with_reducible refine (num_Put.calls k _ _ l0 (IntKind.u64.wrap ((l1.length : Int))) t140 _ ?side1 ?side2 A3.out).mono ?_); (case side1 => exact xC HR0.out); (case side2 => exact HC0.out); rintro e w5 ⟨v141, rfl, ho0, hb⟩; refine ⟨_, rfl, ?_⟩; have n0_ := aM (Kd.R_lower ho0 (below_size (xB HB.out))); have n1_ := aM (below_step (xB HB.out) hb); clear HB; have HO142 := n0_; have HB := n1_; clear n0_ n1_; (try clear hb); (try clear hb2); (try clear hk); (try clear hi); (try clear ho0)) | ((with_reducible refine gate_builtin (b := .append) (xs := #[.tmp 9, .tmp 10]) rfl ?_); at_builtin; refine Kd.R_append_rows (Kd.int .u8) (w0 := w) w.heap.size rfl (.tmp 9) (.tmp 10) 22 5 (.int .u8 0) 1 rfl Try.underlying22 info5 rfl (by decide) (by omega) v141 t140 l1 _ _ _ (fun _ => True) (fun _ => False) rfl rfl ?aO ?aR (fun _ _ h => h) (fun _ h => h.elim) ?aF ?aB ?aS ?aL ?_; (case aR => exact xC (Kd.C_below HR1.out HB.out)); (case aB => exact (xB HB.out)); (case aF => exact (fun _ _ => trivial)); (case aO => exact (xR HO142.out)); (case aS => exact (below_size (xB HB.out))); (case aL => have := LMc4.out; omega); intro v144 w6 ho hb hg hat; rw [← Ny143.out] at ho; have n0_ := aM (hb); have n1_ := aM (ho); clear HB; clear HO142; have HB := n0_; have HO145 := n1_; clear n0_ n1_; clear ho hb hg hat))
  go_ret
  exact ⟨_, by first | rfl | (simp [errW_none, errW_some] <;> rfl) | (simp [*, errW_none, errW_some] <;> rfl), by (with_reducible repeat (first | apply Kd.R_alloc | apply Kd.R_drewN | apply Kd.R_drew)); exact HO145.out, xB HB.out⟩
 ·
  rw [if_neg c4] at H
  exact absurd H (by simp)
def r02_Bytes.l0 : Nat → Int → List Int → Option (List Int)
 | 0, _, _ => none
 | k + 1, x0, x3 => if x0 > 0 then (if x3.length < 140737488355328 then ((some (x3 ++ [(Int.tmod x0 256) % 256] : List Int)).bind fun y436 => (if 0 < (y436.length : Int) then (r02_Bytes.l0 k (IntKind.u64.wrap (Int.tdiv x0 256)) (y436.set (0 : Int).toNat (((rd y436 0) + 1) % 256))) else (none))) else (none)) else (some x3)
def r02_Bytes.f (k : Nat) (a0 : Int) : Option (List Int) := if a0 ≤ 247 then (some (([(a0) % 256] : List Int))) else (r02_Bytes.l0 k a0 (([247] : List Int)))
def r02_Row.f (k : Nat) (l0 : List Int) : Option (List Int) := (r02_Bytes.f k (IntKind.u64.wrap ((l0.length : Int)))).bind fun t441 => (if t441.length + l0.length < 140737488355328 then (some (t441 ++ l0)) else (none))
end Go.Proofs.Ythaifibhflfpkaa.Q
end
section
namespace Go.Proofs.Ythaifibhflfpkaa.Q
open Go.RowKit Go.Proofs.YthaifibhflfpkaaW.PrintWords Go.Proofs.YthaifibhflfpkaaW.PrintLast Go.Proofs.YthaifibhflfpkaaW.PrintMore Go.Proofs.YthaifibhflfpkaaX
namespace Law
def le : Nat → Nat → List Int
  | _, 0 => []
  | a, n + 1 => ((a % 256 : Nat) : Int) :: le (a / 256) n
def nb (a : Nat) : Nat := (Lib.bitLen a + 7) / 8
def numB (a : Nat) : List Int := if a ≤ 247 then [(a : Int)] else ((247 + nb a : Nat) : Int) :: le a (nb a)
theorem le_length : ∀ n a, (le a n).length = n
  | 0, _ => rfl
  | n + 1, a => by simp [le, le_length n]
theorem nb_le (a : Nat) (h : a < 18446744073709551616) : nb a ≤ 8 := by
  have := Lib.bitLen_le a 64 (Nat.le_refl _) h
  unfold nb
  omega
theorem nb_zero : nb 0 = 0 := rfl
theorem nb_step (a : Nat) (h : a < 18446744073709551616) (h0 : 0 < a) : nb a = 1 + nb (a / 256) := by
  unfold nb
  by_cases h2 : 256 ≤ a
  · rw [Lib.bitLen_shift8 a h2 h]
    omega
  · have e : a / 256 = 0 := by omega
    rw [e]
    have h3 := Lib.bitLen_le a 8 (by decide) (by omega)
    have h4 : 1 ≤ Lib.bitLen a := by
      have h5 := Lib.bitLenAux_bounds 64 a h (by omega)
      exact h5.1
    have h6 : Lib.bitLen 0 = 0 := rfl
    rw [h6]
    omega
theorem numB_length (a : Nat) : 1 ≤ (numB a).length ∧ (a < 18446744073709551616 → (numB a).length ≤ 9) := by
  unfold numB
  split
  · simp
  · simp [le_length]
    exact fun h => nb_le a h
theorem put_loop : ∀ (n : Nat) (a : Nat) (x : List Int) (e i : Int), a < 18446744073709551616 → 0 ≤ i → e ≤ 100 → i + n = e → x.length + n < 140737488355328 → Ev (fun k => num_Put.l0 k a x e i) (x ++ le a n)
  | 0, a, x, e, i, ha, hi, he, hn, hx => by
    refine Ev.step (f := fun _ => some x) (fun k => ?_) (by simpa [le] using Ev.now x)
    rw [num_Put.l0, if_neg (by omega)]
  | n + 1, a, x, e, i, ha, hi, he, hn, hx => by
    refine Ev.step (f := fun k => num_Put.l0 k ((a / 256 : Nat) : Int) (x ++ [((a % 256 : Nat) : Int)]) e (i + 1)) (fun k => ?_) ?_
    · rw [num_Put.l0, if_pos (by omega), if_pos (by omega)]
      have hw : wrap64 (i + 1) = i + 1 := by unfold wrap64; omega
      rw [hw]
      rfl
    · have h := put_loop n (a / 256) (x ++ [((a % 256 : Nat) : Int)]) e (i + 1) (by omega) (by omega) he (by omega) (by simp; omega)
      rw [List.append_assoc] at h
      exact h
theorem put (l : List Int) (a : Nat) (ha : a < 18446744073709551616) (hl : l.length < 140737488355000) : Ev (fun k => num_Put.f k l (a : Int)) (l ++ numB a) := by
  unfold num_Put.f
  refine Ev.get (a := l) (if_pos (by omega)) ?_
  refine Ev.get (a := l) (if_pos (by omega)) ?_
  unfold numB
  by_cases h : a ≤ 247
  · refine Ev.pos (by omega) (Ev.pos (by omega) ?_)
    rw [if_pos h]
    have e : (a : Int) % 256 = a := by omega
    rw [e]
    exact Ev.now _
  · refine Ev.neg (by omega) ?_
    rw [if_neg h]
    have hs : num_size.f (a : Int) = some ((nb a : Nat) : Int) := by
      unfold num_size.f bits_Len64.f
      rw [if_pos (by omega)]
      simp only [Option.bind_some, Int.toNat_natCast]
      have hb := Lib.bitLen_le a 64 (Nat.le_refl _) ha
      have h1 : wrap64 ((Lib.bitLen a : Int) + 7) = (Lib.bitLen a : Int) + 7 := by unfold wrap64; omega
      rw [h1]
      have h2 : Int.tdiv ((Lib.bitLen a : Int) + 7) 8 = ((nb a : Nat) : Int) := by unfold nb; rw [Int.tdiv_eq_ediv_of_nonneg (by omega)]; omega
      rw [h2]
      have h3 : wrap64 ((nb a : Nat) : Int) = ((nb a : Nat) : Int) := by have := nb_le a ha; unfold wrap64; omega
      rw [h3]
    refine Ev.get hs (Ev.pos (by omega) ?_)
    have hn := nb_le a ha
    have h1 : (wrap64 (247 + ((nb a : Nat) : Int))) % 256 = ((247 + nb a : Nat) : Int) := by unfold wrap64; omega
    rw [h1]
    have h2 := put_loop (nb a) a (l ++ [((247 + nb a : Nat) : Int)]) ((nb a : Nat) : Int) 0 ha (by omega) (by omega) (by omega) (by simp; omega)
    rw [List.append_assoc] at h2
    exact h2
theorem bytes_loop : ∀ (n : Nat) (a : Nat) (h : Int) (x : List Int), a < 18446744073709551616 → nb a = n → 0 ≤ h → h + n < 256 → x.length + n < 1000 → Ev (fun k => r02_Bytes.l0 k a (h :: x)) ((h + n) :: (x ++ le a n))
  | 0, a, h, x, ha, hn, h0, h1, hx => by
    have e : a = 0 := by
      by_cases h2 : 0 < a
      · rw [nb_step a ha h2] at hn
        omega
      · omega
    subst e
    refine Ev.step (f := fun _ => some (h :: x)) (fun k => ?_) (by simpa [le] using Ev.now (h :: x))
    rw [r02_Bytes.l0, if_neg (by omega)]
  | n + 1, a, h, x, ha, hn, h0, h1, hx => by
    have hp : 0 < a := by
      by_cases h2 : 0 < a
      · exact h2
      · have e : a = 0 := by omega
        rw [e, nb_zero] at hn
        omega
    refine Ev.step (f := fun k => r02_Bytes.l0 k ((a / 256 : Nat) : Int) ((h + 1) :: (x ++ [((a % 256 : Nat) : Int)]))) (fun k => ?_) ?_
    · rw [r02_Bytes.l0, if_pos (by omega), if_pos (by simp; omega)]
      simp only [Option.bind_some, List.cons_append]
      rw [if_pos (by simp; omega)]
      have e1 : Int.tmod (a : Int) 256 % 256 = ((a % 256 : Nat) : Int) := by rw [Int.tmod_eq_emod_of_nonneg (by omega)]; omega
      have e2 : IntKind.u64.wrap (Int.tdiv (a : Int) 256) = ((a / 256 : Nat) : Int) := by
        rw [Int.tdiv_eq_ediv_of_nonneg (by omega)]
        show ((a : Int) / 256) % 18446744073709551616 = _
        omega
      rw [e1, e2]
      have e3 : ((rd (h :: (x ++ [((a % 256 : Nat) : Int)])) 0) + 1) % 256 = h + 1 := by
        show (h + 1) % 256 = h + 1
        omega
      rw [e3]
      rfl
    · have hn' : nb (a / 256) = n := by rw [nb_step a ha hp] at hn; omega
      have h2 := bytes_loop n (a / 256) (h + 1) (x ++ [((a % 256 : Nat) : Int)]) (by omega) hn' (by omega) (by omega) (by simp; omega)
      rw [List.append_assoc] at h2
      have e : h + 1 + (n : Int) = h + ((n + 1 : Nat) : Int) := by omega
      rw [e] at h2
      exact h2
theorem bytes (a : Nat) (ha : a < 18446744073709551616) : Ev (fun k => r02_Bytes.f k (a : Int)) (numB a) := by
  unfold r02_Bytes.f numB
  by_cases h : a ≤ 247
  · refine Ev.pos (by omega) ?_
    rw [if_pos h]
    have e : (a : Int) % 256 = a := by omega
    rw [e]
    exact Ev.now _
  · refine Ev.neg (by omega) ?_
    rw [if_neg h]
    have hn := nb_le a ha
    have h2 := bytes_loop (nb a) a 247 [] ha rfl (by omega) (by omega) (by simp; omega)
    have e : (247 : Int) + (nb a : Nat) = ((247 + nb a : Nat) : Int) := by omega
    rw [e] at h2
    exact h2
theorem wrapu (n : Nat) (h : n < 18446744073709551616) : IntKind.u64.wrap (n : Int) = (n : Int) := by
  show (n : Int) % 18446744073709551616 = _
  omega
def rowB (x : List Int) : List Int := numB x.length ++ x
theorem putRow (l x : List Int) (hl : l.length + x.length < 140737488355000) : Ev (fun k => num_PutRow.f k l x) (l ++ rowB x) := by
  unfold num_PutRow.f
  rw [wrapu _ (by omega)]
  refine Ev.bind (put l x.length (by omega) (by omega)) (Ev.pos ?_ ?_)
  · have := (numB_length x.length).2 (by omega)
    rw [List.length_append]
    omega
  · rw [List.append_assoc]
    exact Ev.now _
theorem row (x : List Int) (hl : x.length < 140737488355000) : Ev (fun k => r02_Row.f k x) (rowB x) := by
  unfold r02_Row.f
  rw [wrapu _ (by omega)]
  refine Ev.bind (bytes x.length (by omega)) (Ev.pos ?_ (Ev.now _))
  have := (numB_length x.length).2 (by omega)
  omega
end Law
end Go.Proofs.Ythaifibhflfpkaa.Q
end
section
namespace Go.Proofs.Ythaifibhflfpkaa.Q
open Go.RowKit Go.Proofs.YthaifibhflfpkaaW.PrintWords Go.Proofs.YthaifibhflfpkaaW.PrintLast Go.Proofs.YthaifibhflfpkaaW.PrintMore Go.Proofs.YthaifibhflfpkaaX
attribute [local go_sem] max2_int min2_int max_two min_two max_three min_three max_four min_four   -- for this text's walks alone
set_option linter.unusedVariables false
set_option linter.unusedSimpArgs false
def bits_Width.l0 : Nat → Int → List Int → Int → Int → Option (Int)
 | 0, _, _, _, _ => none
 | k + 1, x3, x6, x7, x8 => if x8 < x7 then (if 0 ≤ x8 then (if x8 < (x6.length : Int) then (bits_Width.l0 k (Go.bits .or .u64 x3 (rd x6 x8)) x6 x7 (wrap64 (x8 + 1))) else (none)) else (none)) else ((bits_Len64.f x3).bind fun t166 => (some t166))
def bits_Width.f (k : Nat) (l0 : List Int) : Option (Int) := bits_Width.l0 k 0 l0 (l0.length : Int) 0
set_option maxHeartbeats 8000000 in
set_option maxRecDepth 100000 in
theorem bits_Width.calls (k : Nat) (A0 : Option Addr) (c0 : Nat) (l0 : List Int) (r : Int) (w : World) (hr0 : Kd.C (Kd.int .u64) w A0 l0.length l0) (hc0 : l0.length ≤ c0) (h : bits_Width.f k l0 = some r) :
  Calls Try.prog 106 #[.slice A0 l0.length c0] w fun e w' => e = .returned (.int .i64 r) ∧ Drawn0 w w' := by
 have HR0 := aM hr0
 have HC0 := aM hc0
 clear hr0 hc0
 have H : (bits_Width.l0 k 0 l0 (l0.length : Int) 0) = some r := h
 clear h
 have H' := aM H
 clear H
 go_enter Try.func106, Try.ntmps106
 go_wp2
 go_loopg [3, 8] k (fun kq v3 v8 w' => ∃ (x3_1 : Int) (x8_1 : Int), v3 = .int .u64 x3_1 ∧ v8 = .int .i64 x8_1 ∧ Aside0 (bits_Width.l0 kq x3_1 l0 (l0.length : Int) x8_1 = some r) ∧ Aside0 (kq ≤ k) ∧ Drawn0 w w')
 case atStart => exact ⟨(0), (0), (by first | rfl | (simp; done) | (simp [*]; done)), (by first | rfl | (simp; done) | (simp [*]; done)), H', ⟨Nat.le_refl _⟩, by repeat (first | exact Drawn0.refl _ | apply Drawn0.step)⟩
 case round =>
  clear H'
  try clear c1
  obtain ⟨x3_1, x8_1, rfl, rfl, HA, HK1, ⟨m1, rfl⟩⟩ := hrel
  cases gk with
  | zero => exact absurd HA.out (by simp [bits_Width.l0])
  | succ k1 =>
   have H := HA.out
   clear HA
   simp only [bits_Width.l0] at H
   by_cases c2 : x8_1 < (l0.length : Int)
   ·
    rw [if_pos c2] at H
    have c2b0 : decide (x8_1 < (l0.length : Int)) = true := decide_eq_true c2
    clear c2
    by_cases c3 : 0 ≤ x8_1
    ·
     rw [if_pos c3] at H
     have c3b0 : decide (0 ≤ x8_1) = true := decide_eq_true c3
     clear c3
     by_cases c4 : x8_1 < (l0.length : Int)
     ·
      rw [if_pos c4] at H
      have c4b0 : decide (x8_1 < (l0.length : Int)) = true := decide_eq_true c4
      clear c4
      have H' := aM H
      clear H
      have p165 : 0 ≤ (x8_1 : Int) := of_decide_eq_true (by first | (with_reducible assumption) | assumption)
      have q165 : x8_1 < (l0.length : Int) := of_decide_eq_true (by first | (with_reducible assumption) | assumption)
      obtain ⟨ad165, e165, hx165_0⟩ := Kd.at_int HR0.out x8_1 p165 q165
      cases e165
      replace p165 := eq_true p165
      replace q165 := eq_true q165
      go_wp2
      go_roundg k1
      case measure => have := HK1.out; omega
      case rel => exact ⟨(Go.bits .or .u64 x3_1 (rd l0 x8_1)), (wrap64 (x8_1 + 1)), (by first | rfl | (simp; done) | (simp [*]; done)), (by first | rfl | (simp; done) | (simp [*]; done)), H', ⟨by have := HK1.out; omega⟩, by repeat (first | exact Drawn0.refl _ | apply Drawn0.step)⟩
     ·
      rw [if_neg c4] at H
      exact absurd H (by simp)
    ·
     rw [if_neg c3] at H
     exact absurd H (by simp)
   ·
    rw [if_neg c2] at H
    have c2b0 : decide (x8_1 < (l0.length : Int)) = false := decide_eq_false c2
    clear c2
    replace H := Option.bind_eq_some_iff.mp H
    obtain ⟨t166, A50, H⟩ := H
    replace H : (some t166) = some r := H
    have A5 := aM A50
    clear A50
    obtain rfl := Option.some.inj H
    go_wp2_with (first | ((with_reducible refine gate_callee (f := 103) rfl ?_); refine goesL_ (some 17) rfl rfl Try.func103 (by kernel_rfl) rfl #[.int .u64 x3_1] rfl (by (try simp only [List.map_toArray, List.map_cons, List.map_nil]); first | done | rfl | (simp only [List.length_drop, List.length_take]; rfl)) ?_; (with_reducible refine (bits_Len64.calls x3_1 t166 _ A5.out).mono ?_); rintro e w' ⟨rfl, ⟨nd, rfl⟩⟩; refine ⟨_, rfl, ?_⟩))
    go_ret
    exact ⟨by first | rfl | (simp; done) | (simp [*]; done), by repeat (first | exact Drawn0.refl _ | apply Drawn0.step)⟩
mutual
def bits_Pack.j0 : Nat → List Int → Int → Bool → Option (List Int × Int)
 | 0, _, _, _ => none
 | k + 1, x0, x1, x18 => if x18 = true then (some (([] : List Int), 1)) else ((bits_Width.f k x0).bind fun t167 => (if t167 > x1 then (some (([] : List Int), 7)) else (if 0 ≤ (wrap64 ((wrap64 ((wrap64 ((x0.length : Int) / 8)) * x1)) + x1)) then (if (wrap64 ((wrap64 ((wrap64 ((x0.length : Int) / 8)) * x1)) + x1) : Int).toNat ≤ 281474976710656 then (bits_Pack.l0 k x1 (([] : List Int)) 0 0 x0 (x0.length : Int) 0) else (none)) else (none))))
def bits_Pack.l0 : Nat → Int → List Int → Int → Int → List Int → Int → Int → Option (List Int × Int)
 | 0, _, _, _, _, _, _, _ => none
 | k + 1, x1, x6, x7, x8, x31, x32, x33 => if x33 < x32 then (if 0 ≤ x33 then (if x33 < (x31.length : Int) then (bits_Pack.l1 k x1 x6 x7 x8 (rd x31 x33) x1 x31 x32 x33) else (none)) else (none)) else (if x8 > 0 then (if x6.length < 140737488355328 then (some ((x6 ++ [(x7) % 256]), 0)) else (none)) else (some (x6, 0)))
def bits_Pack.l1 : Nat → Int → List Int → Int → Int → Int → Int → List Int → Int → Int → Option (List Int × Int)
 | 0, _, _, _, _, _, _, _, _, _ => none
 | k + 1, x1, x6, x7, x8, x10, x11, x31, x32, x33 => if x11 > 0 then (if 0 ≤ (mn x11 (wrap64 (8 - x8))) then (if 0 ≤ x8 then (if (wrap64 (x8 + (mn x11 (wrap64 (8 - x8))))) = 8 then (if x6.length < 140737488355328 then (bits_Pack.l1 k x1 (x6 ++ [(Go.bits .or .u64 x7 (shl .u64 (Go.bits .and .u64 x10 (IntKind.u64.wrap ((shl .u64 1 (mn x11 (wrap64 (8 - x8)))) - 1))) x8)) % 256]) 0 0 (shr .u64 x10 (mn x11 (wrap64 (8 - x8)))) (wrap64 (x11 - (mn x11 (wrap64 (8 - x8))))) x31 x32 x33) else (none)) else (bits_Pack.l1 k x1 x6 (Go.bits .or .u64 x7 (shl .u64 (Go.bits .and .u64 x10 (IntKind.u64.wrap ((shl .u64 1 (mn x11 (wrap64 (8 - x8)))) - 1))) x8)) (wrap64 (x8 + (mn x11 (wrap64 (8 - x8))))) (shr .u64 x10 (mn x11 (wrap64 (8 - x8)))) (wrap64 (x11 - (mn x11 (wrap64 (8 - x8))))) x31 x32 x33)) else (none)) else (none)) else (bits_Pack.l0 k x1 x6 x7 x8 x31 x32 (wrap64 (x33 + 1)))
end
def bits_Pack.f (k : Nat) (l0 : List Int) (a1 : Int) : Option (List Int × Int) := if a1 < 0 then (bits_Pack.j0 k l0 a1 true) else (bits_Pack.j0 k l0 a1 (decide (a1 > 64)))
set_option maxHeartbeats 8000000 in
set_option maxRecDepth 100000 in
theorem bits_Pack.calls (k : Nat) (A0 : Option Addr) (c0 : Nat) (l0 : List Int) (a1 : Int) (r1 : List Int) (r2 : Int) (w : World) (hr0 : Kd.C (Kd.int .u64) w A0 l0.length l0) (hc0 : l0.length ≤ c0) (h : bits_Pack.f k l0 a1 = some (r1, r2)) :
  Calls Try.prog 79 #[.slice A0 l0.length c0, .int .i64 a1] w fun e w' => ∃ v0_ : Value, e = .returned (.tuple #[v0_, .int .i64 r2]) ∧ Kd.R (Kd.int .u8) 5 w' w.heap.size (fun _ => True) v0_ r1 ∧ Below w.heap.size w w' := by
 have HR0 := aM hr0
 have HC0 := aM hc0
 clear hr0 hc0
 have HB := aM (Below.refl w.heap.size w)
 have H : (if a1 < 0 then (bits_Pack.j0 k l0 a1 true) else (bits_Pack.j0 k l0 a1 (decide (a1 > 64)))) = some (r1, r2) := h
 clear h
 have HC3 := aM H
 clear H
 go_enter Try.func79, Try.ntmps79
 go_upto_region 1 with (fail)
 go_cut [18] (fun v18 wc => ∃ (kq : Nat) (x18_2 : Bool), v18 = .bool x18_2 ∧ Aside0 (bits_Pack.j0 kq l0 a1 x18_2 = some (r1, r2)) ∧ Aside0 (kq ≤ k) ∧ Aside0 (Below w.heap.size w wc))
 case first =>
  have H := HC3.out
  clear HC3
  by_cases c4 : a1 < 0
  ·
   rw [if_pos c4] at H
   have c4b0 : decide (a1 < 0) = true := decide_eq_true c4
   clear c4
   (first | rw [c4b0] | (simp only [i64_w, i32_w]; rw [c4b0]) | skip)
   have H' := aM H
   clear H
   go_wp2
   go_meet
   case rel => exact ⟨_, (true), (by first | rfl | (simp; done) | (simp [*]; done)), H', ⟨by first | omega | exact Nat.le_refl _⟩, ⟨xB HB.out⟩⟩
  ·
   rw [if_neg c4] at H
   have c4b0 : decide (a1 < 0) = false := decide_eq_false c4
   clear c4
   (first | rw [c4b0] | (simp only [i64_w, i32_w]; rw [c4b0]) | skip)
   have H' := aM H
   clear H
   go_wp2
   go_meet
   case rel => exact ⟨_, (decide (a1 > 64)), (by first | rfl | (simp; done) | (simp [*]; done)), H', ⟨by first | omega | exact Nat.le_refl _⟩, ⟨xB HB.out⟩⟩
 case rest =>
  clear HC3
  try clear p2
  try clear c4
  try clear c4b0
  obtain ⟨kq, x18_2, rfl, HA, HJ2, HB⟩ := hcut
  cases kq with
  | zero => exact absurd HA.out (by simp [bits_Pack.j0])
  | succ kj2 =>
   have H := HA.out
   clear HA
   simp only [bits_Pack.j0] at H
   by_cases c5 : x18_2 = true
   ·
    subst c5
    have H1 : (some (([] : List Int), 1)) = some (r1, r2) := by rw [if_pos rfl] at H; exact H
    clear H
    have H := H1
    clear H1
    simp only [Option.some.injEq, Prod.mk.injEq] at H
    obtain ⟨rfl, rfl⟩ := H
    go_wp2
    go_ret2
    exact ⟨_, by first | rfl | (simp [errW_none, errW_some] <;> rfl) | (simp [*, errW_none, errW_some] <;> rfl), by first | exact Kd.R_nil _ _ _ _ _ | exact Kd.N_nil _ _ _ _ _ | exact Kd.V_nil _ _ _ _ _ | exact Kd.Q_nil _ _ _ _ _ | exact Kd.S_nil _ _ _ _ _, xB HB.out⟩
   ·
    replace c5 := Bool.eq_false_iff.mpr c5
    subst c5
    have H1 : ((bits_Width.f kj2 l0).bind fun t167 => (if t167 > a1 then (some (([] : List Int), 7)) else (if 0 ≤ (wrap64 ((wrap64 ((wrap64 ((l0.length : Int) / 8)) * a1)) + a1)) then (if (wrap64 ((wrap64 ((wrap64 ((l0.length : Int) / 8)) * a1)) + a1) : Int).toNat ≤ 281474976710656 then (bits_Pack.l0 kj2 a1 (([] : List Int)) 0 0 l0 (l0.length : Int) 0) else (none)) else (none)))) = some (r1, r2) := by rw [if_neg (show ¬ (false = true) by decide)] at H; exact H
    clear H
    have H := H1
    clear H1
    replace H := Option.bind_eq_some_iff.mp H
    obtain ⟨t167, A60, H⟩ := H
    replace H : (if t167 > a1 then (some (([] : List Int), 7)) else (if 0 ≤ (wrap64 ((wrap64 ((wrap64 ((l0.length : Int) / 8)) * a1)) + a1)) then (if (wrap64 ((wrap64 ((wrap64 ((l0.length : Int) / 8)) * a1)) + a1) : Int).toNat ≤ 281474976710656 then (bits_Pack.l0 kj2 a1 (([] : List Int)) 0 0 l0 (l0.length : Int) 0) else (none)) else (none))) = some (r1, r2) := H
    have A6 := aM A60
    clear A60
    by_cases c7 : t167 > a1
    ·
     rw [if_pos c7] at H
     have c7b0 : decide (a1 < t167) = true := decide_eq_true c7
     clear c7
     simp only [Option.some.injEq, Prod.mk.injEq] at H
     obtain ⟨rfl, rfl⟩ := H
     go_wp2_with (first | ((with_reducible refine gate_callee (f := 106) rfl ?_); refine goesL_ (some 20) rfl rfl Try.func106 (by kernel_rfl) rfl #[.slice A0 l0.length c0] rfl (by (try simp only [List.map_toArray, List.map_cons, List.map_nil]); first | done | rfl | (simp only [List.length_drop, List.length_take]; rfl)) ?_; (with_reducible refine (bits_Width.calls kj2 _ _ l0 t167 _ ?side1 ?side2 A6.out).mono ?_); (case side1 => exact xC (Kd.C_below HR0.out HB.out)); (case side2 => exact HC0.out); rintro e w' ⟨rfl, ⟨nd, rfl⟩⟩; refine ⟨_, rfl, ?_⟩))
     go_ret2
     exact ⟨_, by first | rfl | (simp [errW_none, errW_some] <;> rfl) | (simp [*, errW_none, errW_some] <;> rfl), by first | exact Kd.R_nil _ _ _ _ _ | exact Kd.N_nil _ _ _ _ _ | exact Kd.V_nil _ _ _ _ _ | exact Kd.Q_nil _ _ _ _ _ | exact Kd.S_nil _ _ _ _ _, xB HB.out⟩
    ·
     rw [if_neg c7] at H
     have c7b0 : decide (a1 < t167) = false := decide_eq_false c7
     clear c7
     obtain ⟨ji8, hji8⟩ : ∃ j_ : Int, (wrap64 ((wrap64 ((wrap64 ((l0.length : Int) / 8)) * a1)) + a1)) = j_ := ⟨_, rfl⟩
     replace H : (if 0 ≤ (ji8) then (if (ji8 : Int).toNat ≤ 281474976710656 then (bits_Pack.l0 kj2 a1 (([] : List Int)) 0 0 l0 (l0.length : Int) 0) else (none)) else (none)) = some (r1, r2) := by first | (rw [hji8] at H; exact H) | (simp only [hji8] at H ⊢; exact H)
     (try rw [hji8] at A6)
     have hji8w : (IntKind.i64.wrap ((wrap64 ((wrap64 ((l0.length : Int) / 8)) * a1)) + a1)) = ji8 := (i64_w _).trans hji8
     by_cases c9 : 0 ≤ (ji8)
     ·
      rw [if_pos c9] at H
      have c9b0 := eq_true c9
      have c9b1 : decide (0 ≤ (ji8)) = true := decide_eq_true c9
      clear c9
      by_cases c10 : (ji8 : Int).toNat ≤ 281474976710656
      ·
       rw [if_pos c10] at H
       have c10b0 := eq_true c10
       have c10b1 : decide ((ji8 : Int).toNat ≤ 281474976710656) = true := decide_eq_true c10
       clear c10
       obtain ⟨y168, hy168⟩ : ∃ y_ : List Int, y_ = (([] : List Int)) := ⟨_, rfl⟩
       replace H : (bits_Pack.l0 kj2 a1 y168 0 0 l0 (l0.length : Int) 0) = some (r1, r2) := by first | (rw [hy168]; with_reducible exact H) | (have H2_ := (Option.bind_some _ _).symm.trans H; rw [hy168]; with_reducible exact H2_) | (have H2_ := (Option.bind_some _ _).symm.trans H; with_reducible exact H2_) | with_reducible exact H | (rw [hy168]; exact H) | exact H
       have Ny168 := aM hy168
       clear hy168
       have H' := aM H
       clear H
       go_wp2_with (first | ((with_reducible refine gate_callee (f := 106) rfl ?_); refine goesL_ (some 20) rfl rfl Try.func106 (by kernel_rfl) rfl #[.slice A0 l0.length c0] rfl (by (try simp only [List.map_toArray, List.map_cons, List.map_nil]); first | done | rfl | (simp only [List.length_drop, List.length_take]; rfl)) ?_; (with_reducible refine (bits_Width.calls kj2 _ _ l0 t167 _ ?side1 ?side2 A6.out).mono ?_); (case side1 => exact xC (Kd.C_below HR0.out HB.out)); (case side2 => exact HC0.out); rintro e w' ⟨rfl, ⟨nd, rfl⟩⟩; refine ⟨_, rfl, ?_⟩) | ((with_reducible refine gate_dst (N := 30) rfl ?_); refine R_make0 (Kd.int .u8) _ 5 rfl (N := 30) rfl 22 _ _ rfl ji8 rfl rfl Try.underlying22 (.int .u8 0) 1 info5 rfl (by decide) (by omega) 0 (ok := fun _ => True) (okp := fun _ => True) rfl (fun _ hk => hk) trivial (of_decide_eq_true (by first | (with_reducible assumption) | assumption)) (Nat.le_trans (Nat.mul_le_mul_right _ (of_decide_eq_true (by first | (with_reducible assumption) | assumption) : ji8.toNat ≤ 281474976710656)) (by omega)) (Below.refl _ _) (Nat.le_refl _) ?_; intro v169 w11 ho12 hb hg_ hnew_; clear hg_ hnew_; (first | rw [← Ny168.out] at ho12 | (simp only [Int.reduceToNat] at ho12; rw [← Ny168.out] at ho12)); have n0_ := aM (Kd.R_lower ho12 (below_size (xB HB.out))); have n1_ := aM (below_step (xB HB.out) hb); clear HB; have HO170 := n0_; have HB := n1_; clear n0_ n1_; clear hb ho12))
       go_loopg [6, 7, 8, 33] kj2 (fun kq v6 v7 v8 v33 w' => ∃ (x6_2 : List Int) (x7_2 : Int) (x8_2 : Int) (x33_2 : Int), v7 = .int .u64 x7_2 ∧ v8 = .int .i64 x8_2 ∧ v33 = .int .i64 x33_2 ∧ Aside0 (bits_Pack.l0 kq a1 x6_2 x7_2 x8_2 l0 (l0.length : Int) x33_2 = some (r1, r2)) ∧ Aside0 (kq ≤ kj2) ∧ Aside0 (Kd.R (Kd.int .u8) 5 w' w.heap.size (fun _ => True) v6 x6_2) ∧ Aside0 (Below w.heap.size w w'))
       case atStart => exact ⟨(y168), (0), (0), (0), (by first | rfl | (simp; done) | (simp [*]; done)), (by first | rfl | (simp; done) | (simp [*]; done)), (by first | rfl | (simp; done) | (simp [*]; done)), H', ⟨Nat.le_refl _⟩, ⟨by (with_reducible repeat (first | apply Kd.R_alloc | apply Kd.R_drewN | apply Kd.R_drew)); exact HO170.out⟩, ⟨xB HB.out⟩⟩
       case round =>
        clear H'
        try clear c1
        try clear p2
        try clear c4
        try clear c4b0
        try clear c5
        try clear p6
        try clear c7
        try clear c7b0
        try clear c9
        try clear c9b0
        try clear c9b1
        try clear c10
        try clear c10b0
        try clear c10b1
        try clear p2
        obtain ⟨x6_2, x7_2, x8_2, x33_2, rfl, rfl, rfl, HA, HK2, HO_6, HB⟩ := hrel
        cases gk with
        | zero => exact absurd HA.out (by simp [bits_Pack.l0])
        | succ k2 =>
         have H := HA.out
         clear HA
         simp only [bits_Pack.l0] at H
         by_cases c13 : x33_2 < (l0.length : Int)
         ·
          rw [if_pos c13] at H
          have c13b0 : decide (x33_2 < (l0.length : Int)) = true := decide_eq_true c13
          clear c13
          by_cases c14 : 0 ≤ x33_2
          ·
           rw [if_pos c14] at H
           have c14b0 : decide (0 ≤ x33_2) = true := decide_eq_true c14
           clear c14
           by_cases c15 : x33_2 < (l0.length : Int)
           ·
            rw [if_pos c15] at H
            have c15b0 : decide (x33_2 < (l0.length : Int)) = true := decide_eq_true c15
            clear c15
            have H' := aM H
            clear H
            have p174 : 0 ≤ (x33_2 : Int) := of_decide_eq_true (by first | (with_reducible assumption) | assumption)
            have q174 : x33_2 < (l0.length : Int) := of_decide_eq_true (by first | (with_reducible assumption) | assumption)
            obtain ⟨ad174, e174, hx174_0⟩ := Kd.at_int HR0.out x33_2 p174 q174
            cases e174
            replace hx174_0 := (HB.out.cell (World.block_lt_of_cell? w _ hx174_0)).trans hx174_0
            replace p174 := eq_true p174
            replace q174 := eq_true q174
            go_wp2
            go_loopg [6, 7, 8, 10, 11] k2 (fun kq v6 v7 v8 v10 v11 w' => ∃ (x6_3 : List Int) (x7_3 : Int) (x8_3 : Int) (x10_3 : Int) (x11_3 : Int), v7 = .int .u64 x7_3 ∧ v8 = .int .i64 x8_3 ∧ v10 = .int .u64 x10_3 ∧ v11 = .int .i64 x11_3 ∧ Aside0 (bits_Pack.l1 kq a1 x6_3 x7_3 x8_3 x10_3 x11_3 l0 (l0.length : Int) x33_2 = some (r1, r2)) ∧ Aside0 (kq ≤ k2) ∧ Aside0 (Kd.R (Kd.int .u8) 5 w' w.heap.size (fun _ => True) v6 x6_3) ∧ Aside0 (Below w.heap.size w w'))
            case atStart => exact ⟨(x6_2), (x7_2), (x8_2), (rd l0 x33_2), (a1), (by first | rfl | (simp; done) | (simp [*]; done)), (by first | rfl | (simp; done) | (simp [*]; done)), (by first | rfl | (simp; done) | (simp [*]; done)), (by first | rfl | (simp; done) | (simp [*]; done)), H', ⟨Nat.le_refl _⟩, ⟨by (with_reducible repeat (first | apply Kd.R_alloc | apply Kd.R_drewN | apply Kd.R_drew)); exact HO_6.out⟩, ⟨xB HB.out⟩⟩
            case round =>
             clear H'
             try clear c1
             try clear p1
             try clear q1
             try clear hx1
             try clear p2
             try clear c4
             try clear c4b0
             try clear c5
             try clear p6
             try clear c7
             try clear c7b0
             try clear c9
             try clear c9b0
             try clear c9b1
             try clear c10
             try clear c10b0
             try clear c10b1
             try clear c13
             try clear c13b0
             try clear c14
             try clear c14b0
             try clear c15
             try clear c15b0
             try clear hx174_0
             try clear p174
             try clear p2
             try clear p6
             try clear q174
             obtain ⟨x6_3, x7_3, x8_3, x10_3, x11_3, rfl, rfl, rfl, rfl, HA, HK3, HO_6, HB⟩ := hrel
             cases gk with
             | zero => exact absurd HA.out (by simp [bits_Pack.l1])
             | succ k3 =>
              have H := HA.out
              clear HA
              simp only [bits_Pack.l1] at H
              by_cases c16 : x11_3 > 0
              ·
               rw [if_pos c16] at H
               have c16b0 : decide (0 < x11_3) = true := decide_eq_true c16
               clear c16
               obtain ⟨ji17, hji17⟩ : ∃ j_ : Int, (mn x11_3 (wrap64 (8 - x8_3))) = j_ := ⟨_, rfl⟩
               replace H : (if 0 ≤ (ji17) then (if 0 ≤ x8_3 then (if (wrap64 (x8_3 + (ji17))) = 8 then (if x6_3.length < 140737488355328 then (bits_Pack.l1 k3 a1 (x6_3 ++ [(Go.bits .or .u64 x7_3 (shl .u64 (Go.bits .and .u64 x10_3 (IntKind.u64.wrap ((shl .u64 1 (ji17)) - 1))) x8_3)) % 256]) 0 0 (shr .u64 x10_3 (ji17)) (wrap64 (x11_3 - (ji17))) l0 (l0.length : Int) x33_2) else (none)) else (bits_Pack.l1 k3 a1 x6_3 (Go.bits .or .u64 x7_3 (shl .u64 (Go.bits .and .u64 x10_3 (IntKind.u64.wrap ((shl .u64 1 (ji17)) - 1))) x8_3)) (wrap64 (x8_3 + (ji17))) (shr .u64 x10_3 (ji17)) (wrap64 (x11_3 - (ji17))) l0 (l0.length : Int) x33_2)) else (none)) else (none)) = some (r1, r2) := by first | (rw [hji17] at H; exact H) | (simp only [hji17] at H ⊢; exact H)
               have hji17_ : (if (wrap64 (8 - x8_3)) < x11_3 then (wrap64 (8 - x8_3)) else x11_3) = ji17 := hji17
               by_cases c18 : 0 ≤ (ji17)
               ·
                rw [if_pos c18] at H
                have c18b0 := eq_true c18
                have c18b1 : decide (0 ≤ (ji17)) = true := decide_eq_true c18
                clear c18
                obtain ⟨ji19, hji19⟩ : ∃ j_ : Int, (shl .u64 1 (ji17)) = j_ := ⟨_, rfl⟩
                replace H : (if 0 ≤ x8_3 then (if (wrap64 (x8_3 + (ji17))) = 8 then (if x6_3.length < 140737488355328 then (bits_Pack.l1 k3 a1 (x6_3 ++ [(Go.bits .or .u64 x7_3 (shl .u64 (Go.bits .and .u64 x10_3 (IntKind.u64.wrap ((ji19) - 1))) x8_3)) % 256]) 0 0 (shr .u64 x10_3 (ji17)) (wrap64 (x11_3 - (ji17))) l0 (l0.length : Int) x33_2) else (none)) else (bits_Pack.l1 k3 a1 x6_3 (Go.bits .or .u64 x7_3 (shl .u64 (Go.bits .and .u64 x10_3 (IntKind.u64.wrap ((ji19) - 1))) x8_3)) (wrap64 (x8_3 + (ji17))) (shr .u64 x10_3 (ji17)) (wrap64 (x11_3 - (ji17))) l0 (l0.length : Int) x33_2)) else (none)) = some (r1, r2) := by first | (rw [hji19] at H; exact H) | (simp only [hji19] at H ⊢; exact H)
                have hji19_ : (IntKind.u64.wrap (1 * 2 ^ min (ji17).toNat 64)) = ji19 := hji19
                have hji19z : (ji17) ≤ 64 → (IntKind.u64.wrap (1 * 2 ^ (ji17).toNat)) = ji19 := shl_small hji19
                have hji19u : (IntKind.u64.wrap (2 ^ min (ji17).toNat 64)) = ji19 := by have h_ := hji19_; rw [Int.one_mul] at h_; exact h_
                have hji19v : (ji17) ≤ 64 → (IntKind.u64.wrap (2 ^ (ji17).toNat)) = ji19 := fun hle_ => by have h_ := hji19z hle_; rw [Int.one_mul] at h_; exact h_
                by_cases c20 : 0 ≤ x8_3
                ·
                 rw [if_pos c20] at H
                 have c20b0 := eq_true c20
                 have c20b1 : decide (0 ≤ x8_3) = true := decide_eq_true c20
                 clear c20
                 obtain ⟨ji21, hji21⟩ : ∃ j_ : Int, (shl .u64 (Go.bits .and .u64 x10_3 (IntKind.u64.wrap ((ji19) - 1))) x8_3) = j_ := ⟨_, rfl⟩
                 replace H : (if (wrap64 (x8_3 + (ji17))) = 8 then (if x6_3.length < 140737488355328 then (bits_Pack.l1 k3 a1 (x6_3 ++ [(Go.bits .or .u64 x7_3 (ji21)) % 256]) 0 0 (shr .u64 x10_3 (ji17)) (wrap64 (x11_3 - (ji17))) l0 (l0.length : Int) x33_2) else (none)) else (bits_Pack.l1 k3 a1 x6_3 (Go.bits .or .u64 x7_3 (ji21)) (wrap64 (x8_3 + (ji17))) (shr .u64 x10_3 (ji17)) (wrap64 (x11_3 - (ji17))) l0 (l0.length : Int) x33_2)) = some (r1, r2) := by first | (rw [hji21] at H; exact H) | (simp only [hji21] at H ⊢; exact H)
                 have hji21_ : (IntKind.u64.wrap ((Go.bits .and .u64 x10_3 (IntKind.u64.wrap ((ji19) - 1))) * 2 ^ min x8_3.toNat 64)) = ji21 := hji21
                 have hji21z : x8_3 ≤ 64 → (IntKind.u64.wrap ((Go.bits .and .u64 x10_3 (IntKind.u64.wrap ((ji19) - 1))) * 2 ^ x8_3.toNat)) = ji21 := shl_small hji21
                 have c22b0 := eq_true (of_decide_eq_true (by first | (with_reducible assumption) | assumption) : 0 ≤ (ji17))
                 obtain ⟨ji23, hji23⟩ : ∃ j_ : Int, (shr .u64 x10_3 (ji17)) = j_ := ⟨_, rfl⟩
                 replace H : (if (wrap64 (x8_3 + (ji17))) = 8 then (if x6_3.length < 140737488355328 then (bits_Pack.l1 k3 a1 (x6_3 ++ [(Go.bits .or .u64 x7_3 (ji21)) % 256]) 0 0 ji23 (wrap64 (x11_3 - (ji17))) l0 (l0.length : Int) x33_2) else (none)) else (bits_Pack.l1 k3 a1 x6_3 (Go.bits .or .u64 x7_3 (ji21)) (wrap64 (x8_3 + (ji17))) ji23 (wrap64 (x11_3 - (ji17))) l0 (l0.length : Int) x33_2)) = some (r1, r2) := by first | (rw [hji23] at H; exact H) | (simp only [hji23] at H ⊢; exact H)
                 have hji23_ : (x10_3 / 2 ^ min (ji17).toNat 64) = ji23 := hji23
                 have hji23z : (ji17) ≤ 64 → (x10_3 / 2 ^ (ji17).toNat) = ji23 := shr_small hji23
                 by_cases c24 : (wrap64 (x8_3 + (ji17))) = 8
                 ·
                  rw [if_pos c24] at H
                  have c24b0 : ((wrap64 (x8_3 + (ji17))) == 8) = true := beq_iff_eq.mpr c24
                  have c24b1 : ((wrap64 (x8_3 + (ji17))) != 8) = false := bne_eq_false_iff_eq.mpr c24
                  clear c24
                  by_cases c25 : x6_3.length < 140737488355328
                  ·
                   rw [if_pos c25] at H
                   have LMc25 := aM c25
                   clear c25
                   obtain ⟨y175, hy175⟩ : ∃ y_ : List Int, y_ = (x6_3 ++ [(Go.bits .or .u64 x7_3 (ji21)) % 256]) := ⟨_, rfl⟩
                   replace H : (bits_Pack.l1 k3 a1 y175 0 0 ji23 (wrap64 (x11_3 - (ji17))) l0 (l0.length : Int) x33_2) = some (r1, r2) := by first | (rw [hy175]; with_reducible exact H) | (have H2_ := (Option.bind_some _ _).symm.trans H; rw [hy175]; with_reducible exact H2_) | (have H2_ := (Option.bind_some _ _).symm.trans H; with_reducible exact H2_) | with_reducible exact H | (rw [hy175]; exact H) | exact H
                   have Ny175 := aM hy175
                   clear hy175
                   have H' := aM H
                   clear H
                   go_wp2_with (first | ((with_reducible refine gate_builtin (b := .append) (xs := #[.tmp 64, .tmp 67]) rfl ?_); at_builtin; refine Kd.R_append (Kd.int .u8) (w0 := w) w.heap.size rfl (.tmp 64) (.tmp 67) 22 5 (.int .u8 0) 1 rfl Try.underlying22 info5 rfl (by decide) (by omega) u6 x6_3 ((Go.bits .or .u64 x7_3 (ji21)) % 256) [.int .u8 ((Go.bits .or .u64 x7_3 (ji21)) % 256)] (fun _ => True) (fun _ => False) rfl rfl ?aP (fun _ hk => hk.elim) ?aF ?aO ?aB ?aS ?aL ?_; (case aP => exact rfl); (case aB => exact (xB HB.out)); (case aF => exact (fun _ _ => trivial)); (case aO => exact (xR HO_6.out)); (case aS => exact (below_size (xB HB.out))); (case aL => have := LMc25.out; omega); intro v176 w26 ho hb hg hat; rw [← Ny175.out] at ho; have n0_ := aM (hb); have n1_ := aM (ho); clear HB; clear HO_6; have HB := n0_; have HO177 := n1_; clear n0_ n1_; clear ho hb hg hat))
                   go_roundg k3
                   case measure => have := HJ2.out; have := HK2.out; have := HK3.out; omega
                   case rel => exact ⟨(y175), (0), (0), (ji23), (wrap64 (x11_3 - (ji17))), (by first | rfl | (simp; done) | (simp [*]; done)), (by first | rfl | (simp; done) | (simp [*]; done)), (by first | rfl | (simp; done) | (simp only [← hji23] <;> (first | rfl | simp)) | (simp [*]; done)), (by first | rfl | (simp; done) | (simp only [← hji17] <;> (first | rfl | simp)) | (simp [*]; done)), H', ⟨by have := HJ2.out; have := HK2.out; have := HK3.out; omega⟩, ⟨by (with_reducible repeat (first | apply Kd.R_alloc | apply Kd.R_drewN | apply Kd.R_drew)); exact HO177.out⟩, ⟨xB HB.out⟩⟩
                  ·
                   rw [if_neg c25] at H
                   exact absurd H (by simp)
                 ·
                  rw [if_neg c24] at H
                  have c24b0 : ((wrap64 (x8_3 + (ji17))) == 8) = false := beq_eq_false_iff_ne.mpr c24
                  have c24b1 : ((wrap64 (x8_3 + (ji17))) != 8) = true := bne_iff_ne.mpr c24
                  clear c24
                  have H' := aM H
                  clear H
                  go_wp2
                  go_roundg k3
                  case measure => have := HJ2.out; have := HK2.out; have := HK3.out; omega
                  case rel => exact ⟨(x6_3), (Go.bits .or .u64 x7_3 (ji21)), (wrap64 (x8_3 + (ji17))), (ji23), (wrap64 (x11_3 - (ji17))), (by first | rfl | (simp; done) | (simp only [← hji21] <;> (first | rfl | simp)) | (simp [*]; done)), (by first | rfl | (simp; done) | (simp only [← hji17] <;> (first | rfl | simp)) | (simp [*]; done)), (by first | rfl | (simp; done) | (simp only [← hji23] <;> (first | rfl | simp)) | (simp [*]; done)), (by first | rfl | (simp; done) | (simp only [← hji17] <;> (first | rfl | simp)) | (simp [*]; done)), H', ⟨by have := HJ2.out; have := HK2.out; have := HK3.out; omega⟩, ⟨by (with_reducible repeat (first | apply Kd.R_alloc | apply Kd.R_drewN | apply Kd.R_drew)); exact HO_6.out⟩, ⟨xB HB.out⟩⟩
                ·
                 rw [if_neg c20] at H
                 exact absurd H (by simp)
               ·
                rw [if_neg c18] at H
                exact absurd H (by simp)
              ·
               rw [if_neg c16] at H
               have c16b0 : decide (0 < x11_3) = false := decide_eq_false c16
               clear c16
               have H' := aM H
               clear H
               go_wp2
               go_roundg k3
               case measure => have := HJ2.out; have := HK2.out; have := HK3.out; omega
               case rel => exact ⟨(x6_3), (x7_3), (x8_3), (wrap64 (x33_2 + 1)), (by first | rfl | (simp; done) | (simp [*]; done)), (by first | rfl | (simp; done) | (simp [*]; done)), (by first | rfl | (simp; done) | (simp [*]; done)), H', ⟨by have := HJ2.out; have := HK2.out; have := HK3.out; omega⟩, ⟨by (with_reducible repeat (first | apply Kd.R_alloc | apply Kd.R_drewN | apply Kd.R_drew)); exact HO_6.out⟩, ⟨xB HB.out⟩⟩
           ·
            rw [if_neg c15] at H
            exact absurd H (by simp)
          ·
           rw [if_neg c14] at H
           exact absurd H (by simp)
         ·
          rw [if_neg c13] at H
          have c13b0 : decide (x33_2 < (l0.length : Int)) = false := decide_eq_false c13
          clear c13
          by_cases c27 : x8_2 > 0
          ·
           rw [if_pos c27] at H
           have c27b0 : decide (0 < x8_2) = true := decide_eq_true c27
           clear c27
           by_cases c28 : x6_2.length < 140737488355328
           ·
            rw [if_pos c28] at H
            have LMc28 := aM c28
            clear c28
            obtain ⟨y171, hy171⟩ : ∃ y_ : List Int, y_ = (x6_2 ++ [(x7_2) % 256]) := ⟨_, rfl⟩
            replace H : (some (y171, 0)) = some (r1, r2) := by first | (rw [hy171]; with_reducible exact H) | (have H2_ := (Option.bind_some _ _).symm.trans H; rw [hy171]; with_reducible exact H2_) | (have H2_ := (Option.bind_some _ _).symm.trans H; with_reducible exact H2_) | with_reducible exact H | (rw [hy171]; exact H) | exact H
            have Ny171 := aM hy171
            clear hy171
            simp only [Option.some.injEq, Prod.mk.injEq] at H
            obtain ⟨rfl, rfl⟩ := H
            go_wp2_with (first | ((with_reducible refine gate_builtin (b := .append) (xs := #[.tmp 72, .tmp 75]) rfl ?_); at_builtin; refine Kd.R_append (Kd.int .u8) (w0 := w) w.heap.size rfl (.tmp 72) (.tmp 75) 22 5 (.int .u8 0) 1 rfl Try.underlying22 info5 rfl (by decide) (by omega) u6 x6_2 ((x7_2) % 256) [.int .u8 ((x7_2) % 256)] (fun _ => True) (fun _ => False) rfl rfl ?aP (fun _ hk => hk.elim) ?aF ?aO ?aB ?aS ?aL ?_; (case aP => exact rfl); (case aB => exact (xB HB.out)); (case aF => exact (fun _ _ => trivial)); (case aO => exact (xR HO_6.out)); (case aS => exact (below_size (xB HB.out))); (case aL => have := LMc28.out; omega); intro v172 w29 ho hb hg hat; rw [← Ny171.out] at ho; have n0_ := aM (hb); have n1_ := aM (ho); clear HB; clear HO_6; have HB := n0_; have HO173 := n1_; clear n0_ n1_; clear ho hb hg hat))
            go_ret2
            exact ⟨_, by first | rfl | (simp [errW_none, errW_some] <;> rfl) | (simp only [← hji8]; first | rfl | (simp [errW_none, errW_some] <;> rfl)) | (simp [*, errW_none, errW_some] <;> rfl), by (with_reducible repeat (first | apply Kd.R_alloc | apply Kd.R_drewN | apply Kd.R_drew)); exact HO173.out, xB HB.out⟩
           ·
            rw [if_neg c28] at H
            exact absurd H (by simp)
          ·
           rw [if_neg c27] at H
           have c27b0 : decide (0 < x8_2) = false := decide_eq_false c27
           clear c27
           simp only [Option.some.injEq, Prod.mk.injEq] at H
           obtain ⟨rfl, rfl⟩ := H
           go_wp2
           go_ret2
           exact ⟨_, by first | rfl | (simp [errW_none, errW_some] <;> rfl) | (simp only [← hji8]; first | rfl | (simp [errW_none, errW_some] <;> rfl)) | (simp [*, errW_none, errW_some] <;> rfl), by (with_reducible repeat (first | apply Kd.R_alloc | apply Kd.R_drewN | apply Kd.R_drew)); exact HO_6.out, xB HB.out⟩
      ·
       rw [if_neg c10] at H
       exact absurd H (by simp)
     ·
      rw [if_neg c9] at H
      exact absurd H (by simp)
end Go.Proofs.Ythaifibhflfpkaa.Q
end
section
namespace Go.Proofs.Ythaifibhflfpkaa.Q
open Go.RowKit Go.Proofs.YthaifibhflfpkaaW.PrintWords Go.Proofs.YthaifibhflfpkaaW.PrintLast Go.Proofs.YthaifibhflfpkaaW.PrintMore Go.Proofs.YthaifibhflfpkaaX
namespace Law
def sumw (w : Nat) : List Nat → Nat
  | [] => 0
  | x :: r => x + 2 ^ w * sumw w r
def ints (a : List Nat) : List Int := a.map fun (x : Nat) => (x : Int)
theorem ints_length (a : List Nat) : (ints a).length = a.length := by simp [ints]
theorem rd_ints (a : List Nat) (i : Nat) : rd (ints a) (i : Int) = ((a.getD i 0 : Nat) : Int) := by
  rw [rd_nat]
  unfold ints
  rw [List.getD_eq_getElem?_getD, List.getD_eq_getElem?_getD, List.getElem?_map]
  cases a[i]? <;> rfl
theorem sumw_drop (w : Nat) : ∀ (a : List Nat) (i : Nat), (∀ x ∈ a, x < 2 ^ w) → sumw w a / 2 ^ (w * i) = sumw w (a.drop i)
  | a, 0, _ => by simp
  | [], i + 1, _ => by simp [sumw]
  | x :: r, i + 1, h => by
    have hx := h x (by simp)
    have ih := sumw_drop w r i (fun y hy => h y (by simp [hy]))
    rw [sumw, Nat.mul_add, Nat.mul_one, Nat.add_comm (w * i) w, Nat.pow_add, ← Nat.div_div_eq_div_mul, Nat.add_mul_div_left _ _ (Nat.two_pow_pos w), Nat.div_eq_of_lt hx, Nat.zero_add, ih]
    rfl
theorem sumw_at (w : Nat) (a : List Nat) (i : Nat) (h : ∀ x ∈ a, x < 2 ^ w) : sumw w a / 2 ^ (w * i) % 2 ^ w = a.getD i 0 := by
  rw [sumw_drop w a i h]
  by_cases hi : i < a.length
  · rw [List.drop_eq_getElem_cons hi, sumw, Nat.add_mul_mod_self_left, List.getD_eq_getElem?_getD, List.getElem?_eq_getElem hi]
    exact Nat.mod_eq_of_lt (h _ (List.getElem_mem hi))
  · rw [List.drop_eq_nil_of_le (by omega), List.getD_eq_getElem?_getD, List.getElem?_eq_none (by omega)]
    simp [sumw]
theorem sumw_lt (w : Nat) (a : List Nat) (h : ∀ x ∈ a, x < 2 ^ w) : sumw w a < 2 ^ (w * a.length) := by
  have e := sumw_drop w a a.length h
  rw [List.drop_length] at e
  rcases Nat.div_eq_zero_iff.1 e with h0 | h0
  · exact absurd h0 (Nat.ne_of_gt (Nat.two_pow_pos _))
  · exact h0
theorem le_snoc : ∀ (n a : Nat), le a (n + 1) = le a n ++ [((a / 2 ^ (8 * n) % 256 : Nat) : Int)]
  | 0, a => by simp [le]
  | n + 1, a => by
    rw [le, le_snoc n (a / 256), le, Nat.div_div_eq_div_mul, show 256 * 2 ^ (8 * n) = 2 ^ (8 * (n + 1)) by rw [Nat.mul_add, Nat.pow_add, Nat.mul_comm]]
    rfl
theorem le_get : ∀ (n a j : Nat), j < n → (le a n)[j]? = some ((a / 2 ^ (8 * j) % 256 : Nat) : Int)
  | 0, a, j, h => absurd h (by omega)
  | n + 1, a, 0, h => by simp [le]
  | n + 1, a, j + 1, h => by
    rw [le, List.getElem?_cons_succ, le_get n (a / 256) j (by omega), Nat.div_div_eq_div_mul, show 256 * 2 ^ (8 * j) = 2 ^ (8 * (j + 1)) by rw [Nat.mul_add, Nat.pow_add, Nat.mul_comm]]
theorem le_zero : ∀ n, le 0 n = List.replicate n 0
  | 0 => rfl
  | n + 1 => by
    rw [le, List.replicate_succ]
    have := le_zero n
    simp [this]
theorem shr_nat (a n : Nat) (hn : n ≤ 64) : shr .u64 (a : Int) (n : Int) = ((a / 2 ^ n : Nat) : Int) := by
  unfold shr
  rw [Int.toNat_natCast, Nat.min_eq_left (show n ≤ IntKind.u64.bits from hn)]
  simp
theorem tdiv8 (n : Nat) (h : n < 1000000000000) : wrap64 (Int.tdiv (n : Int) 8) = ((n / 8 : Nat) : Int) ∧ Int.tmod (n : Int) 8 = ((n % 8 : Nat) : Int) := by
  rw [Int.tmod_eq_emod_of_nonneg (by omega), Int.tdiv_eq_ediv_of_nonneg (by omega)]
  unfold wrap64
  omega
theorem place (i w j : Nat) (hi : i < 1000000) (hw : w ≤ 64) (hj : j ≤ 64) : wrap64 (wrap64 ((i : Int) * (w : Int)) + (j : Int)) = ((w * i + j : Nat) : Int) ∧ w * i + j < 1000000000 := by
  have h1 : i * w ≤ i * 64 := Nat.mul_le_mul_left i hw
  have h2 : w * i = i * w := Nat.mul_comm w i
  have e : (i : Int) * (w : Int) = ((i * w : Nat) : Int) := by simp
  rw [e, h2]
  generalize i * w = z at *
  unfold wrap64
  omega
theorem byteI (z : Nat) (h : z < 256) : (z : Int) % 256 = z := by omega
theorem shl_nat (a n : Nat) (hn : n ≤ 64) (h : a * 2 ^ n < 2 ^ 64) : shl .u64 (a : Int) (n : Int) = ((a * 2 ^ n : Nat) : Int) := by
  unfold shl
  rw [Int.toNat_natCast, Nat.min_eq_left (show n ≤ IntKind.u64.bits from hn)]
  rw [show (a : Int) * 2 ^ n = ((a * 2 ^ n : Nat) : Int) by simp]
  exact wrapu _ h
theorem pack_step (N q has left n : Nat) (hhas : has < 8) (hleft : left ≤ 64) (hn : n = min left (8 - has)) :
    Go.bits .or .u64 ((N / 2 ^ (8 * q) % 2 ^ has : Nat) : Int) (shl .u64 (Go.bits .and .u64 ((N / 2 ^ (8 * q + has) % 2 ^ left : Nat) : Int) (IntKind.u64.wrap ((shl .u64 1 (n : Int)) - 1))) (has : Int)) = ((N / 2 ^ (8 * q) % 2 ^ (has + n) : Nat) : Int)
    ∧ shr .u64 ((N / 2 ^ (8 * q + has) % 2 ^ left : Nat) : Int) (n : Int) = ((N / 2 ^ (8 * q + (has + n)) % 2 ^ (left - n) : Nat) : Int) := by
  have hnl : n ≤ left := by omega
  have hn8 : has + n ≤ 8 := by omega
  have e64 : 2 ^ left = 2 ^ n * 2 ^ (left - n) := by rw [← Nat.pow_add]; congr 1; omega
  have p64 : (2 : Nat) ^ left ≤ 2 ^ 64 := Nat.pow_le_pow_right (by decide) hleft
  have pn : (2 : Nat) ^ n ≤ 2 ^ 8 := Nat.pow_le_pow_right (by decide) (by omega)
  have pn0 := Nat.two_pow_pos n
  have hv : N / 2 ^ (8 * q + has) % 2 ^ left < 2 ^ left := Nat.mod_lt _ (Nat.two_pow_pos _)
  constructor
  · have e1 : shl .u64 1 (n : Int) = ((2 ^ n : Nat) : Int) := by
      have := shl_nat 1 n (by omega) (by omega)
      rw [Nat.one_mul] at this
      exact this
    have e2 : IntKind.u64.wrap (((2 ^ n : Nat) : Int) - 1) = 2 ^ n - 1 := by
      rw [show ((2 ^ n : Nat) : Int) - 1 = ((2 ^ n - 1 : Nat) : Int) by omega, wrapu _ (by omega)]
      rw [Int.natCast_sub pn0]
      simp
    rw [e1, e2]
    rw [Go.bits_mask .u64 64 (by decide) wraps_u64 n (by omega) _ (by omega) (by
      have : N / 2 ^ (8 * q + has) % 2 ^ left < 2 ^ 64 := Nat.lt_of_lt_of_le hv p64
      exact_mod_cast this)]
    rw [show ((N / 2 ^ (8 * q + has) % 2 ^ left : Nat) : Int) % 2 ^ n = ((N / 2 ^ (8 * q + has) % 2 ^ n : Nat) : Int) by
      have e : N / 2 ^ (8 * q + has) % 2 ^ left % 2 ^ n = N / 2 ^ (8 * q + has) % 2 ^ n := Nat.mod_mod_of_dvd _ ⟨_, e64⟩
      rw [← e]
      simp]
    have hm : N / 2 ^ (8 * q + has) % 2 ^ n < 2 ^ n := Nat.mod_lt _ pn0
    have ph := Nat.two_pow_pos has
    have h8 : 2 ^ (has + n) ≤ 2 ^ 8 := Nat.pow_le_pow_right (by decide) hn8
    have hmm : N / 2 ^ (8 * q + has) % 2 ^ n * 2 ^ has < 2 ^ (has + n) := by
      rw [Nat.pow_add 2 has n, Nat.mul_comm (2 ^ has)]
      exact (Nat.mul_lt_mul_right ph).2 hm
    rw [shl_nat _ _ (by omega) (by omega)]
    have hc : N / 2 ^ (8 * q) % 2 ^ has < 2 ^ has := Nat.mod_lt _ ph
    have ph8 : (2 : Nat) ^ has ≤ 2 ^ 8 := Nat.pow_le_pow_right (by decide) (by omega)
    rw [or_join .u64 64 (by decide) wraps_u64 has _ _ (by omega) (by
      have : N / 2 ^ (8 * q + has) % 2 ^ n * 2 ^ has % 2 ^ has = 0 := Nat.mul_mod_left _ _
      exact_mod_cast this) (by
      have : N / 2 ^ (8 * q + has) % 2 ^ n * 2 ^ has < 2 ^ 64 := by omega
      exact_mod_cast this) (by omega) (by exact_mod_cast hc) (by
      have : N / 2 ^ (8 * q) % 2 ^ has < 2 ^ 64 := by omega
      exact_mod_cast this)]
    rw [Nat.pow_add 2 has n, Nat.mod_mul, Nat.div_div_eq_div_mul, ← Nat.pow_add, Int.natCast_add, Nat.mul_comm (2 ^ has)]
  · rw [shr_nat _ _ (by omega), e64, Nat.mod_mul_right_div_self, Nat.div_div_eq_div_mul, ← Nat.pow_add, Nat.add_assoc]
theorem pack_in (w : Nat) (a : List Nat) (N : Nat) (hw : w ≤ 64) (hl : a.length < 1000000) (i : Nat) (hi : i < a.length) {R : List Int × Int}
    (hn : ∀ q has, has < 8 → 8 * q + has = w * (i + 1) → Ev (fun k => bits_Pack.l0 k (w : Int) (le N q) ((N / 2 ^ (8 * q) % 2 ^ has : Nat) : Int) (has : Int) (ints a) (a.length : Int) ((i + 1 : Nat) : Int)) R) :
    ∀ (m left q has : Nat), left ≤ m → has < 8 → 8 * q + has + left = w * (i + 1) → left ≤ w → Ev (fun k => bits_Pack.l1 k (w : Int) (le N q) ((N / 2 ^ (8 * q) % 2 ^ has : Nat) : Int) (has : Int) ((N / 2 ^ (8 * q + has) % 2 ^ left : Nat) : Int) (left : Int) (ints a) (a.length : Int) (i : Int)) R
  | m, 0, q, has, _, hhas, hT, _ => by
    refine Ev.step (fun k => ?_) (hn q has hhas (by omega))
    rw [bits_Pack.l1, if_neg (by omega), w64_succ i (by omega)]
  | 0, left + 1, q, has, hm, hhas, hT, _ => absurd hm (by omega)
  | m + 1, left + 1, q, has, hm, hhas, hT, hlw => by
    have hst := pack_step N q has (left + 1) (min (left + 1) (8 - has)) hhas (by omega) rfl
    have hmn : mn ((left + 1 : Nat) : Int) (wrap64 (8 - (has : Int))) = ((min (left + 1) (8 - has) : Nat) : Int) := by
      have e := w64_sub 8 has (by omega) (by omega)
      rw [show ((8 : Nat) : Int) = 8 by rfl] at e
      rw [e]
      unfold mn
      split <;> omega
    have HST := Lib.hid hst
    have HMN := Lib.hid hmn
    clear hst hmn
    obtain ⟨n, hne⟩ : ∃ n, n = min (left + 1) (8 - has) := ⟨_, rfl⟩
    rw [← hne] at HST HMN
    have hn1 : 1 ≤ n := by omega
    have hn2 : n ≤ left + 1 := by omega
    have hn3 : has + n ≤ 8 := by omega
    clear hne
    have hwi : w * (i + 1) ≤ 64 * 1000000 := Nat.mul_le_mul hw (by omega)
    have hsub := Lib.hid (w64_sub (left + 1) n hn2 (by omega))
    have hadd := Lib.hid (w64_add has n (by omega) (by omega))
    by_cases h8 : has + n = 8
    · have ih := pack_in w a N hw hl i hi hn m (left + 1 - n) (q + 1) 0 (by omega) (by omega) (by omega) (by omega)
      refine Ev.step (fun k => ?_) ih
      rw [bits_Pack.l1, if_pos (by omega), HMN.out, if_pos (by omega), if_pos (by omega), HST.out.1, HST.out.2, hadd.out, hsub.out, if_pos (by omega), if_pos (by rw [le_length]; omega)]
      rw [h8, le_snoc q N, show 8 * (q + 1) + 0 = 8 * q + 8 by omega, show (2 : Nat) ^ 8 = 256 by rfl]
      rw [byteI _ (Nat.mod_lt _ (by decide))]
      rw [Nat.pow_zero, Nat.mod_one]
      rfl
    · have ih := pack_in w a N hw hl i hi hn m (left + 1 - n) q (has + n) (by omega) (by omega) (by omega) (by omega)
      refine Ev.step (fun k => ?_) ih
      rw [bits_Pack.l1, if_pos (by omega), HMN.out, if_pos (by omega), if_pos (by omega), HST.out.1, HST.out.2, hadd.out, hsub.out, if_neg (by omega)]
theorem pack_out (w : Nat) (a : List Nat) (hw : w ≤ 64) (hl : a.length < 1000000) (hb : ∀ x ∈ a, x < 2 ^ w) : ∀ (d i q has : Nat), i + d = a.length → has < 8 → 8 * q + has = w * i → Ev (fun k => bits_Pack.l0 k (w : Int) (le (sumw w a) q) ((sumw w a / 2 ^ (8 * q) % 2 ^ has : Nat) : Int) (has : Int) (ints a) (a.length : Int) (i : Int)) (le (sumw w a) ((w * a.length + 7) / 8), 0)
  | 0, i, q, has, hi, hhas, hT => by
    have e : i = a.length := by omega
    subst e
    have hlt := sumw_lt w a hb
    have hwi : w * a.length ≤ 64 * 1000000 := Nat.mul_le_mul hw (by omega)
    by_cases h0 : has = 0
    · subst h0
      refine Ev.step (f := fun _ => some _) (fun k => ?_) (Ev.now _)
      rw [bits_Pack.l0, if_neg (by omega), if_neg (by omega), show (w * a.length + 7) / 8 = q by omega]
    · refine Ev.step (f := fun _ => some _) (fun k => ?_) (Ev.now _)
      rw [bits_Pack.l0, if_neg (by omega), if_pos (by omega), if_pos (by rw [le_length]; omega), show (w * a.length + 7) / 8 = q + 1 by omega, le_snoc]
      have h1 : sumw w a / 2 ^ (8 * q) < 2 ^ has := by
        rw [Nat.div_lt_iff_lt_mul (Nat.two_pow_pos _), ← Nat.pow_add, Nat.add_comm has, hT]
        exact hlt
      have h2 : (2 : Nat) ^ has ≤ 2 ^ 8 := Nat.pow_le_pow_right (by decide) (by omega)
      rw [Nat.mod_eq_of_lt h1, Nat.mod_eq_of_lt (show sumw w a / 2 ^ (8 * q) < 256 by omega)]
      rw [byteI _ (show sumw w a / 2 ^ (8 * q) < 256 by omega)]
  | d + 1, i, q, has, hi, hhas, hT => by
    have ih : ∀ q has, has < 8 → 8 * q + has = w * (i + 1) → Ev (fun k => bits_Pack.l0 k (w : Int) (le (sumw w a) q) ((sumw w a / 2 ^ (8 * q) % 2 ^ has : Nat) : Int) (has : Int) (ints a) (a.length : Int) ((i + 1 : Nat) : Int)) (le (sumw w a) ((w * a.length + 7) / 8), 0) :=
      fun q has h1 h2 => pack_out w a hw hl hb d (i + 1) q has (by omega) h1 h2
    have h := pack_in w a (sumw w a) hw hl i (by omega) ih w w q has (Nat.le_refl _) hhas (by rw [Nat.mul_succ]; omega) (Nat.le_refl _)
    refine Ev.step (fun k => ?_) h
    rw [bits_Pack.l0, if_pos (by omega), if_pos (by omega), if_pos (by rw [ints_length]; omega), rd_ints, hT, sumw_at w a i hb]
theorem width_loop (w : Nat) (hw : w ≤ 64) (a : List Nat) (hl : a.length < 1000000) (hb : ∀ x ∈ a, x < 2 ^ w) : ∀ (d i acc : Nat), i + d = a.length → acc < 2 ^ w → ∃ n : Nat, n ≤ w ∧ Ev (fun k => bits_Width.l0 k (acc : Int) (ints a) (a.length : Int) (i : Int)) (n : Int)
  | 0, i, acc, hi, hacc => by
    have p64 : (2 : Nat) ^ w ≤ 2 ^ 64 := Nat.pow_le_pow_right (by decide) hw
    refine ⟨Lib.bitLen acc, Lib.bitLen_le acc w hw hacc, Ev.step (f := fun _ => some _) (fun k => ?_) (Ev.now _)⟩
    rw [bits_Width.l0, if_neg (by omega)]
    unfold bits_Len64.f
    rw [if_pos (by omega), Int.toNat_natCast]
    rfl
  | d + 1, i, acc, hi, hacc => by
    have p64 : (2 : Nat) ^ w ≤ 2 ^ 64 := Nat.pow_le_pow_right (by decide) hw
    have hx : a.getD i 0 < 2 ^ w := by rw [← sumw_at w a i hb]; exact Nat.mod_lt _ (Nat.two_pow_pos _)
    obtain ⟨n, hn, h⟩ := width_loop w hw a hl hb d (i + 1) (acc ||| a.getD i 0) (by omega) (Nat.or_lt_two_pow hacc hx)
    refine ⟨n, hn, Ev.step (fun k => ?_) h⟩
    rw [bits_Width.l0, if_pos (by omega), if_pos (by omega), if_pos (by rw [ints_length]; omega), rd_ints, (Go.bits_nat .u64 64 (by decide) wraps_u64 acc (a.getD i 0) (by omega) (by omega)).2, w64_succ i (by omega)]
theorem pack03 (w : Nat) (hw : w ≤ 64) (a : List Nat) (hl : a.length < 1000000) (hb : ∀ x ∈ a, x < 2 ^ w) : Ev (fun k => bits_Pack.f k (ints a) (w : Int)) (le (sumw w a) ((w * a.length + 7) / 8), 0) := by
  unfold bits_Pack.f
  refine Ev.neg (by omega) ?_
  rw [decide_eq_false (by omega)]
  obtain ⟨n, hn, hwd⟩ := width_loop w hw a hl hb a.length 0 0 (by omega) (Nat.two_pow_pos _)
  have h := pack_out w a hw hl hb a.length 0 0 0 (by omega) (by omega) (by omega)
  have hdiv : a.length / 8 * w ≤ 1000000 * 64 := Nat.mul_le_mul (by omega) hw
  have e1 : wrap64 ((a.length : Int) / 8) = ((a.length / 8 : Nat) : Int) := by unfold wrap64; omega
  have e2 : wrap64 (wrap64 (((a.length / 8 : Nat) : Int) * (w : Int)) + (w : Int)) = ((a.length / 8 * w + w : Nat) : Int) := by
    rw [show ((a.length / 8 : Nat) : Int) * (w : Int) = ((a.length / 8 * w : Nat) : Int) by simp]
    generalize a.length / 8 * w = z at *
    unfold wrap64
    omega
  have E1 := Lib.hid e1
  have E2 := Lib.hid e2
  clear e1 e2
  refine Ev.step (fun k => ?_) (Ev.bind (f := fun k t => if t > (w : Int) then some (([] : List Int), (7 : Int)) else bits_Pack.l0 k (w : Int) [] 0 0 (ints a) (a.length : Int) 0) hwd (Ev.neg (by omega) ?_))
  · rw [bits_Pack.j0, if_neg (by decide)]
    unfold bits_Width.f
    rw [ints_length, E1.out, E2.out]
    congr 1
    funext t
    rw [if_pos (show (0 : Int) ≤ ((a.length / 8 * w + w : Nat) : Int) by omega), if_pos (show (((a.length / 8 * w + w : Nat) : Int)).toNat ≤ 281474976710656 by omega)]
  · simpa [le, Nat.mod_one] using h
end Law
end Go.Proofs.Ythaifibhflfpkaa.Q
end
section
namespace Go.Proofs.Ythaifibhflfpkaa.Q
open Go.RowKit Go.Proofs.YthaifibhflfpkaaW.PrintWords Go.Proofs.YthaifibhflfpkaaW.PrintLast Go.Proofs.YthaifibhflfpkaaW.PrintMore Go.Proofs.YthaifibhflfpkaaX
attribute [local go_sem] max2_int min2_int max_two min_two max_three min_three max_four min_four   -- for this text's walks alone
set_option linter.unusedVariables false
set_option linter.unusedSimpArgs false
def slices_Min_uint64_uint64.l0 : Nat → List Int → Int → Int → Option (Int)
 | 0, _, _, _ => none
 | k + 1, x0, x3, x4 => if x4 < (x0.length : Int) then (if 0 ≤ x4 then (slices_Min_uint64_uint64.l0 k x0 (mn x3 (rd x0 x4)) (wrap64 (x4 + 1))) else (none)) else (some x3)
def slices_Min_uint64_uint64.f (k : Nat) (l0 : List Int) : Option (Int) := if (l0.length : Int) < 1 then (none) else (if 0 < (l0.length : Int) then (slices_Min_uint64_uint64.l0 k l0 (rd l0 0) 1) else (none))
set_option maxHeartbeats 8000000 in
set_option maxRecDepth 100000 in
theorem slices_Min_uint64_uint64.calls (k : Nat) (A0 : Option Addr) (c0 : Nat) (l0 : List Int) (r : Int) (w : World) (hr0 : Kd.C (Kd.int .u64) w A0 l0.length l0) (hc0 : l0.length ≤ c0) (h : slices_Min_uint64_uint64.f k l0 = some r) :
  Calls Try.prog 76 #[.slice A0 l0.length c0] w fun e w' => e = .returned (.int .u64 r) ∧ Below w.heap.size w w' := by
 have HR0 := aM hr0
 have HC0 := aM hc0
 clear hr0 hc0
 have HB := aM (Below.refl w.heap.size w)
 have H : (if (l0.length : Int) < 1 then (none) else (if 0 < (l0.length : Int) then (slices_Min_uint64_uint64.l0 k l0 (rd l0 0) 1) else (none))) = some r := h
 clear h
 by_cases c2 : (l0.length : Int) < 1
 ·
  rw [if_pos c2] at H
  exact absurd H (by simp)
 ·
  rw [if_neg c2] at H
  have c2b0 : decide ((l0.length : Int) < 1) = false := decide_eq_false c2
  have c2b1 : decide (l0.length < 1) = false := decide_eq_false (by omega)
  clear c2
  by_cases c3 : 0 < (l0.length : Int)
  ·
   rw [if_pos c3] at H
   have c3b0 : decide (0 < (l0.length : Int)) = true := decide_eq_true c3
   have c3b1 : decide (0 < l0.length) = true := decide_eq_true (by omega)
   clear c3
   have H' := aM H
   clear H
   have p157 : 0 ≤ (0 : Int) := (by omega)
   have q157 : 0 < (l0.length : Int) := of_decide_eq_true (by first | (with_reducible assumption) | assumption)
   obtain ⟨ad157, e157, hx157_0⟩ := Kd.at_int HR0.out 0 p157 q157
   cases e157
   have qi157 : (0 < l0.length) = True := eq_true (by omega)
   (try rw [show ((0 : Int)).toNat = 0 from rfl] at hx157_0)
   (try rw [Addr.add_zero'] at hx157_0)
   replace p157 := eq_true p157
   replace q157 := eq_true q157
   go_enter Try.func76, Try.ntmps76
   go_wp2
   go_loopg [3, 4] k (fun kq v3 v4 w' => ∃ (x3_1 : Int) (x4_1 : Int), v3 = .int .u64 x3_1 ∧ v4 = .int .i64 x4_1 ∧ Aside0 (slices_Min_uint64_uint64.l0 kq l0 x3_1 x4_1 = some r) ∧ Aside0 (kq ≤ k) ∧ Aside0 (Below w.heap.size w w'))
   case atStart => exact ⟨(rd l0 0), (1), (by first | rfl | (simp; done) | (simp [*]; done)), (by first | rfl | (simp; done) | (simp [*]; done)), H', ⟨Nat.le_refl _⟩, ⟨xB HB.out⟩⟩
   case round =>
    clear H'
    try clear p1
    try clear q1
    try clear hx1
    try clear qi1
    try clear c2
    try clear c2b0
    try clear c2b1
    try clear p2
    try clear c3
    try clear c3b0
    try clear c3b1
    try clear hx157_0
    try clear p157
    try clear q157
    obtain ⟨x3_1, x4_1, rfl, rfl, HA, HK1, HB⟩ := hrel
    cases gk with
    | zero => exact absurd HA.out (by simp [slices_Min_uint64_uint64.l0])
    | succ k1 =>
     have H := HA.out
     clear HA
     simp only [slices_Min_uint64_uint64.l0] at H
     by_cases c4 : x4_1 < (l0.length : Int)
     ·
      rw [if_pos c4] at H
      have c4b0 : decide (x4_1 < (l0.length : Int)) = true := decide_eq_true c4
      clear c4
      by_cases c5 : 0 ≤ x4_1
      ·
       rw [if_pos c5] at H
       have c5b0 : decide (0 ≤ x4_1) = true := decide_eq_true c5
       clear c5
       obtain ⟨ji6, hji6⟩ : ∃ j_ : Int, (mn x3_1 (rd l0 x4_1)) = j_ := ⟨_, rfl⟩
       replace H : (slices_Min_uint64_uint64.l0 k1 l0 ji6 (wrap64 (x4_1 + 1))) = some r := by first | (rw [hji6] at H; exact H) | (simp only [hji6] at H ⊢; exact H)
       have hji6_ : (if (rd l0 x4_1) < x3_1 then (rd l0 x4_1) else x3_1) = ji6 := hji6
       have H' := aM H
       clear H
       have p158 : 0 ≤ (x4_1 : Int) := of_decide_eq_true (by first | (with_reducible assumption) | assumption)
       have q158 : x4_1 < (l0.length : Int) := of_decide_eq_true (by first | (with_reducible assumption) | assumption)
       obtain ⟨ad158, e158, hx158_0⟩ := Kd.at_int HR0.out x4_1 p158 q158
       obtain rfl : ad157 = ad158 := (by injection e158)
       replace hx158_0 := (HB.out.cell (World.block_lt_of_cell? w _ hx158_0)).trans hx158_0
       replace p158 := eq_true p158
       replace q158 := eq_true q158
       go_wp2
       go_roundg k1
       case measure => have := HK1.out; omega
       case rel => exact ⟨(ji6), (wrap64 (x4_1 + 1)), (by first | rfl | (simp; done) | (simp only [← hji6] <;> (first | rfl | simp)) | (simp [*]; done)), (by first | rfl | (simp; done) | (simp [*]; done)), H', ⟨by have := HK1.out; omega⟩, ⟨xB HB.out⟩⟩
      ·
       rw [if_neg c5] at H
       exact absurd H (by simp)
     ·
      rw [if_neg c4] at H
      have c4b0 : decide (x4_1 < (l0.length : Int)) = false := decide_eq_false c4
      clear c4
      obtain rfl := Option.some.inj H
      go_wp2
      go_ret
      exact ⟨by first | rfl | (simp [errW_none, errW_some] <;> rfl) | (simp [*, errW_none, errW_some] <;> rfl), xB HB.out⟩
  ·
   rw [if_neg c3] at H
   exact absurd H (by simp)
def pfor_high.f (a0 : Int) (a1 : Int) : Option (Int) := if a1 ≥ 64 then (some 0) else (if 0 ≤ a1 then (some (shr .u64 a0 a1)) else (none))
set_option maxHeartbeats 8000000 in
set_option maxRecDepth 100000 in
theorem pfor_high.calls (a0 : Int) (a1 : Int) (r : Int) (w : World) (h : pfor_high.f a0 a1 = some r) :
  Calls Try.prog 78 #[.int .u64 a0, .int .i64 a1] w fun e w' => e = .returned (.int .u64 r) ∧ Drawn0 w w' := by
 have H : (if a1 ≥ 64 then (some 0) else (if 0 ≤ a1 then (some (shr .u64 a0 a1)) else (none))) = some r := h
 clear h
 by_cases c3 : a1 ≥ 64
 ·
  rw [if_pos c3] at H
  have c3b0 : decide (64 ≤ a1) = true := decide_eq_true c3
  clear c3
  obtain rfl := Option.some.inj H
  go_enter Try.func78, Try.ntmps78
  go_wp2
  go_ret
  exact ⟨by first | rfl | (simp; done) | (simp [*]; done), by repeat (first | exact Drawn0.refl _ | apply Drawn0.step)⟩
 ·
  rw [if_neg c3] at H
  have c3b0 : decide (64 ≤ a1) = false := decide_eq_false c3
  clear c3
  by_cases c4 : 0 ≤ a1
  ·
   rw [if_pos c4] at H
   have c4b0 := eq_true c4
   have c4b1 : decide (0 ≤ a1) = true := decide_eq_true c4
   clear c4
   obtain ⟨ji5, hji5⟩ : ∃ j_ : Int, (shr .u64 a0 a1) = j_ := ⟨_, rfl⟩
   replace H : (some ji5) = some r := by first | (rw [hji5] at H; exact H) | (simp only [hji5] at H ⊢; exact H)
   have hji5_ : (a0 / 2 ^ min a1.toNat 64) = ji5 := hji5
   have hji5z : a1 ≤ 64 → (a0 / 2 ^ a1.toNat) = ji5 := shr_small hji5
   obtain rfl := Option.some.inj H
   go_enter Try.func78, Try.ntmps78
   go_wp2
   go_ret
   exact ⟨by first | rfl | (simp; done) | (simp only [← hji5] <;> (first | rfl | simp)) | (simp [*]; done), by repeat (first | exact Drawn0.refl _ | apply Drawn0.step)⟩
  ·
   rw [if_neg c4] at H
   exact absurd H (by simp)
def pfor_size.f (k : Nat) (a0 : Int) : Option (Int) := (num_Put.f k ([] : List Int) a0).bind fun t159 => (some (t159.length : Int))
set_option maxHeartbeats 8000000 in
set_option maxRecDepth 100000 in
theorem pfor_size.calls (k : Nat) (a0 : Int) (r : Int) (w : World) (h : pfor_size.f k a0 = some r) :
  Calls Try.prog 105 #[.int .u64 a0] w fun e w' => e = .returned (.int .i64 r) ∧ Below w.heap.size w w' := by
 have HB := aM (Below.refl w.heap.size w)
 have H : ((num_Put.f k ([] : List Int) a0).bind fun t159 => (some (t159.length : Int))) = some r := h
 clear h
 replace H := Option.bind_eq_some_iff.mp H
 obtain ⟨t159, A20, H⟩ := H
 replace H : (some (t159.length : Int)) = some r := H
 have A2 := aM A20
 clear A20
 obtain rfl := Option.some.inj H
 go_enter Try.func105, Try.ntmps105
 go_wp2_with (first | ((with_reducible refine gate_callee (f := 47) rfl ?_); refine goesL_ (some 4) rfl rfl Try.func47 (by kernel_rfl) rfl #[.slice none 0 0, .int .u64 a0] rfl (by (try simp only [List.map_toArray, List.map_cons, List.map_nil]); first | done | rfl | (simp only [List.length_drop, List.length_take]; rfl)) ?_; (refine (num_Put.calls k _ _ ([] : List Int) a0 t159 _ ?side1 ?side2 A2.out).mono ?_); (case side1 => exact Kd.C_nil _ _); (case side2 => exact Nat.le_refl _); rintro e w3 ⟨v160, rfl, ho0, hb⟩; refine ⟨_, rfl, ?_⟩; have n0_ := aM (Kd.R_lower ho0 (below_size (xB HB.out))); have n1_ := aM (below_step (xB HB.out) hb); clear HB; have HO161 := n0_; have HB := n1_; clear n0_ n1_; (try clear hb); (try clear hb2); (try clear hk); (try clear hi); (try clear ho0); obtain ⟨Ao4, co4, eo4⟩ := Kd.R_slice HO161.out; subst eo4))
 go_ret
 exact ⟨by first | rfl | (simp [errW_none, errW_some] <;> rfl) | (simp [*, errW_none, errW_some] <;> rfl), xB HB.out⟩
mutual
def pfor_width.l0 : Nat → List Int → Int → Int → Int → Option (Int)
 | 0, _, _, _, _ => none
 | k + 1, x0, x3, x4, x5 => if x5 ≤ 64 then (pfor_width.l1 k x0 x3 x4 x5 (wrap64 (Int.tdiv (wrap64 ((wrap64 ((x0.length : Int) * x5)) + 7)) 8)) x0 (x0.length : Int) 0) else (some x3)
def pfor_width.l1 : Nat → List Int → Int → Int → Int → Int → List Int → Int → Int → Option (Int)
 | 0, _, _, _, _, _, _, _, _ => none
 | k + 1, x0, x3, x4, x5, x6, x20, x21, x22 => if x22 < x21 then (if 0 ≤ x22 then (if x22 < (x20.length : Int) then ((pfor_high.f (rd x20 x22) x5).bind fun t163 => (if t163 > 0 then ((pfor_size.f k t163).bind fun t164 => (pfor_width.l1 k x0 x3 x4 x5 (wrap64 (x6 + (wrap64 (1 + t164)))) x20 x21 (wrap64 (x22 + 1)))) else (pfor_width.l1 k x0 x3 x4 x5 x6 x20 x21 (wrap64 (x22 + 1))))) else (none)) else (none)) else (if x4 < 0 then (pfor_width.l0 k x0 x5 x6 (wrap64 (x5 + 1))) else (if x6 < x4 then (pfor_width.l0 k x0 x5 x6 (wrap64 (x5 + 1))) else (pfor_width.l0 k x0 x3 x4 (wrap64 (x5 + 1)))))
end
def pfor_width.f (k : Nat) (l0 : List Int) : Option (Int) := pfor_width.l0 k l0 0 (-1) 0
set_option maxHeartbeats 8000000 in
set_option maxRecDepth 100000 in
theorem pfor_width.calls (k : Nat) (A0 : Option Addr) (c0 : Nat) (l0 : List Int) (r : Int) (w : World) (hr0 : Kd.C (Kd.int .u64) w A0 l0.length l0) (hc0 : l0.length ≤ c0) (h : pfor_width.f k l0 = some r) :
  Calls Try.prog 77 #[.slice A0 l0.length c0] w fun e w' => e = .returned (.int .i64 r) ∧ Below w.heap.size w w' := by
 have HR0 := aM hr0
 have HC0 := aM hc0
 clear hr0 hc0
 have HB := aM (Below.refl w.heap.size w)
 have H : (pfor_width.l0 k l0 0 (-1) 0) = some r := h
 clear h
 have H' := aM H
 clear H
 go_enter Try.func77, Try.ntmps77
 go_wp2
 go_loopg [3, 4, 5] k (fun kq v3 v4 v5 w' => ∃ (x3_1 : Int) (x4_1 : Int) (x5_1 : Int), v3 = .int .i64 x3_1 ∧ v4 = .int .i64 x4_1 ∧ v5 = .int .i64 x5_1 ∧ Aside0 (pfor_width.l0 kq l0 x3_1 x4_1 x5_1 = some r) ∧ Aside0 (kq ≤ k) ∧ Aside0 (Below w.heap.size w w'))
 case atStart => exact ⟨(0), ((-1)), (0), (by first | rfl | (simp; done) | (simp [*]; done)), (by first | rfl | (simp; done) | (simp [*]; done)), (by first | rfl | (simp; done) | (simp [*]; done)), H', ⟨Nat.le_refl _⟩, ⟨xB HB.out⟩⟩
 case round =>
  clear H'
  obtain ⟨x3_1, x4_1, x5_1, rfl, rfl, rfl, HA, HK1, HB⟩ := hrel
  cases gk with
  | zero => exact absurd HA.out (by simp [pfor_width.l0])
  | succ k1 =>
   have H := HA.out
   clear HA
   simp only [pfor_width.l0] at H
   by_cases c2 : x5_1 ≤ 64
   ·
    rw [if_pos c2] at H
    have c2b0 : decide (x5_1 ≤ 64) = true := decide_eq_true c2
    clear c2
    have H' := aM H
    clear H
    go_wp2
    go_loopg [6, 22] k1 (fun kq v6 v22 w' => ∃ (x6_2 : Int) (x22_2 : Int), v6 = .int .i64 x6_2 ∧ v22 = .int .i64 x22_2 ∧ Aside0 (pfor_width.l1 kq l0 x3_1 x4_1 x5_1 x6_2 l0 (l0.length : Int) x22_2 = some r) ∧ Aside0 (kq ≤ k1) ∧ Aside0 (Below w.heap.size w w'))
    case atStart => exact ⟨(wrap64 (Int.tdiv (wrap64 ((wrap64 ((l0.length : Int) * x5_1)) + 7)) 8)), (0), (by first | rfl | (simp; done) | (simp [*]; done)), (by first | rfl | (simp; done) | (simp [*]; done)), H', ⟨Nat.le_refl _⟩, ⟨xB HB.out⟩⟩
    case round =>
     clear H'
     try clear c2
     try clear c2b0
     try clear p2
     obtain ⟨x6_2, x22_2, rfl, rfl, HA, HK2, HB⟩ := hrel
     cases gk with
     | zero => exact absurd HA.out (by simp [pfor_width.l1])
     | succ k2 =>
      have H := HA.out
      clear HA
      simp only [pfor_width.l1] at H
      by_cases c3 : x22_2 < (l0.length : Int)
      ·
       rw [if_pos c3] at H
       have c3b0 : decide (x22_2 < (l0.length : Int)) = true := decide_eq_true c3
       clear c3
       by_cases c4 : 0 ≤ x22_2
       ·
        rw [if_pos c4] at H
        have c4b0 : decide (0 ≤ x22_2) = true := decide_eq_true c4
        clear c4
        by_cases c5 : x22_2 < (l0.length : Int)
        ·
         rw [if_pos c5] at H
         have c5b0 : decide (x22_2 < (l0.length : Int)) = true := decide_eq_true c5
         clear c5
         replace H := Option.bind_eq_some_iff.mp H
         obtain ⟨t163, A60, H⟩ := H
         replace H : (if t163 > 0 then ((pfor_size.f k2 t163).bind fun t164 => (pfor_width.l1 k2 l0 x3_1 x4_1 x5_1 (wrap64 (x6_2 + (wrap64 (1 + t164)))) l0 (l0.length : Int) (wrap64 (x22_2 + 1)))) else (pfor_width.l1 k2 l0 x3_1 x4_1 x5_1 x6_2 l0 (l0.length : Int) (wrap64 (x22_2 + 1)))) = some r := H
         have A6 := aM A60
         clear A60
         by_cases c7 : t163 > 0
         ·
          rw [if_pos c7] at H
          have c7b0 : decide (0 < t163) = true := decide_eq_true c7
          clear c7
          replace H := Option.bind_eq_some_iff.mp H
          obtain ⟨t164, A80, H⟩ := H
          replace H : (pfor_width.l1 k2 l0 x3_1 x4_1 x5_1 (wrap64 (x6_2 + (wrap64 (1 + t164)))) l0 (l0.length : Int) (wrap64 (x22_2 + 1))) = some r := H
          have A8 := aM A80
          clear A80
          have H' := aM H
          clear H
          have p162 : 0 ≤ (x22_2 : Int) := of_decide_eq_true (by first | (with_reducible assumption) | assumption)
          have q162 : x22_2 < (l0.length : Int) := of_decide_eq_true (by first | (with_reducible assumption) | assumption)
          obtain ⟨ad162, e162, hx162_0⟩ := Kd.at_int HR0.out x22_2 p162 q162
          cases e162
          replace hx162_0 := (HB.out.cell (World.block_lt_of_cell? w _ hx162_0)).trans hx162_0
          replace p162 := eq_true p162
          replace q162 := eq_true q162
          go_wp2_with (first | ((with_reducible refine gate_callee (f := 78) rfl ?_); refine goesL_ (some 28) rfl rfl Try.func78 (by kernel_rfl) rfl #[.int .u64 (rd l0 x22_2), .int .i64 x5_1] rfl (by (try simp only [List.map_toArray, List.map_cons, List.map_nil]); first | done | rfl | (simp only [List.length_drop, List.length_take]; rfl)) ?_; (with_reducible refine (pfor_high.calls (rd l0 x22_2) x5_1 t163 _ A6.out).mono ?_); rintro e w' ⟨rfl, ⟨nd, rfl⟩⟩; refine ⟨_, rfl, ?_⟩) | ((with_reducible refine gate_callee (f := 105) rfl ?_); refine goesL_ (some 33) rfl rfl Try.func105 (by kernel_rfl) rfl #[.int .u64 t163] rfl (by (try simp only [List.map_toArray, List.map_cons, List.map_nil]); first | done | rfl | (simp only [List.length_drop, List.length_take]; rfl)) ?_; (with_reducible refine (pfor_size.calls k2 t163 t164 _ A8.out).mono ?_); rintro e w9 ⟨rfl, hb⟩; refine ⟨_, rfl, ?_⟩; have n0_ := aM (below_step (xB HB.out) hb); clear HB; have HB := n0_; clear n0_; (try clear hb); (try clear hb2); (try clear hk); (try clear hi)))
          go_roundg k2
          case measure => have := HK1.out; have := HK2.out; omega
          case rel => exact ⟨(wrap64 (x6_2 + (wrap64 (1 + t164)))), (wrap64 (x22_2 + 1)), (by first | rfl | (simp; done) | (simp [*]; done)), (by first | rfl | (simp; done) | (simp [*]; done)), H', ⟨by have := HK1.out; have := HK2.out; omega⟩, ⟨xB HB.out⟩⟩
         ·
          rw [if_neg c7] at H
          have c7b0 : decide (0 < t163) = false := decide_eq_false c7
          clear c7
          have H' := aM H
          clear H
          have p162 : 0 ≤ (x22_2 : Int) := of_decide_eq_true (by first | (with_reducible assumption) | assumption)
          have q162 : x22_2 < (l0.length : Int) := of_decide_eq_true (by first | (with_reducible assumption) | assumption)
          obtain ⟨ad162, e162, hx162_0⟩ := Kd.at_int HR0.out x22_2 p162 q162
          cases e162
          replace hx162_0 := (HB.out.cell (World.block_lt_of_cell? w _ hx162_0)).trans hx162_0
          replace p162 := eq_true p162
          replace q162 := eq_true q162
          go_wp2_with (first | ((with_reducible refine gate_callee (f := 78) rfl ?_); refine goesL_ (some 28) rfl rfl Try.func78 (by kernel_rfl) rfl #[.int .u64 (rd l0 x22_2), .int .i64 x5_1] rfl (by (try simp only [List.map_toArray, List.map_cons, List.map_nil]); first | done | rfl | (simp only [List.length_drop, List.length_take]; rfl)) ?_; (with_reducible refine (pfor_high.calls (rd l0 x22_2) x5_1 t163 _ A6.out).mono ?_); rintro e w' ⟨rfl, ⟨nd, rfl⟩⟩; refine ⟨_, rfl, ?_⟩))
          go_roundg k2
          case measure => have := HK1.out; have := HK2.out; omega
          case rel => exact ⟨(x6_2), (wrap64 (x22_2 + 1)), (by first | rfl | (simp; done) | (simp [*]; done)), (by first | rfl | (simp; done) | (simp [*]; done)), H', ⟨by have := HK1.out; have := HK2.out; omega⟩, ⟨xB HB.out⟩⟩
        ·
         rw [if_neg c5] at H
         exact absurd H (by simp)
       ·
        rw [if_neg c4] at H
        exact absurd H (by simp)
      ·
       rw [if_neg c3] at H
       have c3b0 : decide (x22_2 < (l0.length : Int)) = false := decide_eq_false c3
       clear c3
       by_cases c10 : x4_1 < 0
       ·
        rw [if_pos c10] at H
        have c10b0 : decide (x4_1 < 0) = true := decide_eq_true c10
        clear c10
        have H' := aM H
        clear H
        go_wp2
        go_roundg k2
        case measure => have := HK1.out; have := HK2.out; omega
        case rel => exact ⟨(x5_1), (x6_2), (wrap64 (x5_1 + 1)), (by first | rfl | (simp; done) | (simp [*]; done)), (by first | rfl | (simp; done) | (simp [*]; done)), (by first | rfl | (simp; done) | (simp [*]; done)), H', ⟨by have := HK1.out; have := HK2.out; omega⟩, ⟨xB HB.out⟩⟩
       ·
        rw [if_neg c10] at H
        have c10b0 : decide (x4_1 < 0) = false := decide_eq_false c10
        clear c10
        by_cases c11 : x6_2 < x4_1
        ·
         rw [if_pos c11] at H
         have c11b0 : decide (x6_2 < x4_1) = true := decide_eq_true c11
         clear c11
         have H' := aM H
         clear H
         go_wp2
         go_roundg k2
         case measure => have := HK1.out; have := HK2.out; omega
         case rel => exact ⟨(x5_1), (x6_2), (wrap64 (x5_1 + 1)), (by first | rfl | (simp; done) | (simp [*]; done)), (by first | rfl | (simp; done) | (simp [*]; done)), (by first | rfl | (simp; done) | (simp [*]; done)), H', ⟨by have := HK1.out; have := HK2.out; omega⟩, ⟨xB HB.out⟩⟩
        ·
         rw [if_neg c11] at H
         have c11b0 : decide (x6_2 < x4_1) = false := decide_eq_false c11
         clear c11
         have H' := aM H
         clear H
         go_wp2
         go_roundg k2
         case measure => have := HK1.out; have := HK2.out; omega
         case rel => exact ⟨(x3_1), (x4_1), (wrap64 (x5_1 + 1)), (by first | rfl | (simp; done) | (simp [*]; done)), (by first | rfl | (simp; done) | (simp [*]; done)), (by first | rfl | (simp; done) | (simp [*]; done)), H', ⟨by have := HK1.out; have := HK2.out; omega⟩, ⟨xB HB.out⟩⟩
   ·
    rw [if_neg c2] at H
    have c2b0 : decide (x5_1 ≤ 64) = false := decide_eq_false c2
    clear c2
    obtain rfl := Option.some.inj H
    go_wp2
    go_ret
    exact ⟨by first | rfl | (simp [errW_none, errW_some] <;> rfl) | (simp [*, errW_none, errW_some] <;> rfl), xB HB.out⟩
mutual
def slices_Concat_byte_byte.l0 : Nat → List (List Int) → Int → List (List Int) → Int → Int → Option (List Int)
 | 0, _, _, _, _, _ => none
 | k + 1, x0, x3, x9, x10, x11 => if x11 < x10 then (if 0 ≤ x11 then (if x11 < (x9.length : Int) then (if (wrap64 (x3 + ((rd_L1 x9 x11).length : Int))) < 0 then (none) else (slices_Concat_byte_byte.l0 k x0 (wrap64 (x3 + ((rd_L1 x9 x11).length : Int))) x9 x10 (wrap64 (x11 + 1)))) else (none)) else (none)) else ((slices_Grow_byte_byte.f ([] : List Int) x3).bind fun t179 => (slices_Concat_byte_byte.l1 k t179 x0 (x0.length : Int) 0))
def slices_Concat_byte_byte.l1 : Nat → List Int → List (List Int) → Int → Int → Option (List Int)
 | 0, _, _, _, _ => none
 | k + 1, x6, x25, x26, x27 => if x27 < x26 then (if 0 ≤ x27 then (if x27 < (x25.length : Int) then (if x6.length + (rd_L1 x25 x27).length < 140737488355328 then (slices_Concat_byte_byte.l1 k (x6 ++ (rd_L1 x25 x27)) x25 x26 (wrap64 (x27 + 1))) else (none)) else (none)) else (none)) else (some x6)
end
def slices_Concat_byte_byte.f (k : Nat) (l0 : List (List Int)) : Option (List Int) := slices_Concat_byte_byte.l0 k l0 0 l0 (l0.length : Int) 0
set_option maxHeartbeats 8000000 in
set_option maxRecDepth 100000 in
theorem slices_Concat_byte_byte.calls (k : Nat) (A0 : Option Addr) (c0 : Nat) (l0 : List (List Int)) (r : List Int) (w : World) (hr0 : Kd.C (Kd.slice 5 (Kd.int .u8)) w A0 l0.length l0) (hc0 : l0.length ≤ c0) (h : slices_Concat_byte_byte.f k l0 = some r) :
  Calls Try.prog 80 #[.slice A0 l0.length c0] w fun e w' => ∃ v0_ : Value, e = .returned (v0_) ∧ Kd.R (Kd.int .u8) 5 w' w.heap.size (fun _ => True) v0_ r ∧ Below w.heap.size w w' := by
 have HR0 := aM hr0
 have HC0 := aM hc0
 clear hr0 hc0
 have HB := aM (Below.refl w.heap.size w)
 have H : (slices_Concat_byte_byte.l0 k l0 0 l0 (l0.length : Int) 0) = some r := h
 clear h
 have H' := aM H
 clear H
 go_enter Try.func80, Try.ntmps80
 go_wp2
 go_loopg [3, 11] k (fun kq v3 v11 w' => ∃ (x3_1 : Int) (x11_1 : Int), v3 = .int .i64 x3_1 ∧ v11 = .int .i64 x11_1 ∧ Aside0 (slices_Concat_byte_byte.l0 kq l0 x3_1 l0 (l0.length : Int) x11_1 = some r) ∧ Aside0 (kq ≤ k) ∧ Aside0 (Below w.heap.size w w'))
 case atStart => exact ⟨(0), (0), (by first | rfl | (simp; done) | (simp [*]; done)), (by first | rfl | (simp; done) | (simp [*]; done)), H', ⟨Nat.le_refl _⟩, ⟨xB HB.out⟩⟩
 case round =>
  clear H'
  obtain ⟨x3_1, x11_1, rfl, rfl, HA, HK1, HB⟩ := hrel
  cases gk with
  | zero => exact absurd HA.out (by simp [slices_Concat_byte_byte.l0])
  | succ k1 =>
   have H := HA.out
   clear HA
   simp only [slices_Concat_byte_byte.l0] at H
   by_cases c2 : x11_1 < (l0.length : Int)
   ·
    rw [if_pos c2] at H
    have c2b0 : decide (x11_1 < (l0.length : Int)) = true := decide_eq_true c2
    clear c2
    by_cases c3 : 0 ≤ x11_1
    ·
     rw [if_pos c3] at H
     have c3b0 : decide (0 ≤ x11_1) = true := decide_eq_true c3
     clear c3
     by_cases c4 : x11_1 < (l0.length : Int)
     ·
      rw [if_pos c4] at H
      have c4b0 : decide (x11_1 < (l0.length : Int)) = true := decide_eq_true c4
      clear c4
      by_cases c5 : (wrap64 (x3_1 + ((rd_L1 l0 x11_1).length : Int))) < 0
      ·
       rw [if_pos c5] at H
       exact absurd H (by simp)
      ·
       rw [if_neg c5] at H
       have c5b0 : decide ((wrap64 (x3_1 + ((rd_L1 l0 x11_1).length : Int))) < 0) = false := decide_eq_false c5
       clear c5
       have H' := aM H
       clear H
       have p178 : 0 ≤ (x11_1 : Int) := of_decide_eq_true (by first | (with_reducible assumption) | assumption)
       have q178 : x11_1 < (l0.length : Int) := of_decide_eq_true (by first | (with_reducible assumption) | assumption)
       obtain ⟨ad178, A178_0, c178_0, e178, hx178_0, hl178_0, hi178_0⟩ := at_L1 HR0.out x11_1 p178 q178
       cases e178
       replace hx178_0 := (HB.out.cell (World.block_lt_of_cell? w _ hx178_0)).trans hx178_0
       have HR178_0 := aM hi178_0
       have HC178_0 := aM hl178_0
       clear hi178_0 hl178_0
       replace p178 := eq_true p178
       replace q178 := eq_true q178
       go_wp2
       go_roundg k1
       case measure => have := HK1.out; omega
       case rel => exact ⟨(wrap64 (x3_1 + ((rd_L1 l0 x11_1).length : Int))), (wrap64 (x11_1 + 1)), (by first | rfl | (simp; done) | (simp [*]; done)), (by first | rfl | (simp; done) | (simp [*]; done)), H', ⟨by have := HK1.out; omega⟩, ⟨xB HB.out⟩⟩
     ·
      rw [if_neg c4] at H
      exact absurd H (by simp)
    ·
     rw [if_neg c3] at H
     exact absurd H (by simp)
   ·
    rw [if_neg c2] at H
    have c2b0 : decide (x11_1 < (l0.length : Int)) = false := decide_eq_false c2
    clear c2
    replace H := Option.bind_eq_some_iff.mp H
    obtain ⟨t179, A60, H⟩ := H
    replace H : (slices_Concat_byte_byte.l1 k1 t179 l0 (l0.length : Int) 0) = some r := H
    have A6 := aM A60
    clear A60
    have H' := aM H
    clear H
    go_wp2_with (first | ((with_reducible refine gate_callee (f := 73) rfl ?_); refine goesL_ (some 24) rfl rfl Try.func73 (by kernel_rfl) rfl #[.slice none 0 0, .int .i64 x3_1] rfl (by (try simp only [List.map_toArray, List.map_cons, List.map_nil]); first | done | rfl | (simp only [List.length_drop, List.length_take]; rfl)) ?_; (refine (slices_Grow_byte_byte.calls (fun k_ => some k_ = (.slice none 0 0 : Value).ownBlock) (.slice none 0 0) ([] : List Int) x3_1 t179 w _ ?side1 ?side2 A6.out).mono ?_); (case side1 => repeat (first | (with_reducible first | exact HB.out | apply below_alloc | apply pw_below_drewN | apply below_drew1) | exact HB.out)); (case side2 => exact Kd.R_nil _ _ _ _ _); rintro e w7 ⟨v180, rfl, ho0, hb, hkp⟩; refine ⟨_, rfl, ?_⟩; have n0_ := aM (Kd.R_mono (ok' := fun k_ => True) ho0 (fun k_ hk_ => trivial)); have n1_ := aM (hb); clear HB; have HO181 := n0_; have HB := n1_; clear n0_ n1_; (try clear hb); (try clear hkp); (try clear ho0)))
    go_loopg [6, 27] k1 (fun kq v6 v27 w' => ∃ (x6_2 : List Int) (x27_2 : Int), v27 = .int .i64 x27_2 ∧ Aside0 (slices_Concat_byte_byte.l1 kq x6_2 l0 (l0.length : Int) x27_2 = some r) ∧ Aside0 (kq ≤ k1) ∧ Aside0 (Kd.R (Kd.int .u8) 5 w' w.heap.size (fun _ => True) v6 x6_2) ∧ Aside0 (Below w.heap.size w w'))
    case atStart => exact ⟨(t179), (0), (by first | rfl | (simp; done) | (simp [*]; done)), H', ⟨Nat.le_refl _⟩, ⟨by (with_reducible repeat (first | apply Kd.R_alloc | apply Kd.R_drewN | apply Kd.R_drew)); exact HO181.out⟩, ⟨xB HB.out⟩⟩
    case round =>
     clear H'
     try clear c1
     try clear p1
     try clear q1
     try clear hx1
     try clear c2
     try clear c2b0
     try clear p2
     try clear c3
     try clear c3b0
     try clear c4
     try clear c4b0
     try clear c5
     try clear c5b0
     try clear p6
     try clear c7
     try clear hx178_0
     try clear p178
     try clear q178
     obtain ⟨x6_2, x27_2, rfl, HA, HK2, HO_6, HB⟩ := hrel
     cases gk with
     | zero => exact absurd HA.out (by simp [slices_Concat_byte_byte.l1])
     | succ k2 =>
      have H := HA.out
      clear HA
      simp only [slices_Concat_byte_byte.l1] at H
      by_cases c8 : x27_2 < (l0.length : Int)
      ·
       rw [if_pos c8] at H
       have c8b0 : decide (x27_2 < (l0.length : Int)) = true := decide_eq_true c8
       clear c8
       by_cases c9 : 0 ≤ x27_2
       ·
        rw [if_pos c9] at H
        have c9b0 : decide (0 ≤ x27_2) = true := decide_eq_true c9
        clear c9
        by_cases c10 : x27_2 < (l0.length : Int)
        ·
         rw [if_pos c10] at H
         have c10b0 : decide (x27_2 < (l0.length : Int)) = true := decide_eq_true c10
         clear c10
         by_cases c11 : x6_2.length + (rd_L1 l0 x27_2).length < 140737488355328
         ·
          rw [if_pos c11] at H
          have LMc11 := aM c11
          clear c11
          obtain ⟨y183, hy183⟩ : ∃ y_ : List Int, y_ = (x6_2 ++ (rd_L1 l0 x27_2)) := ⟨_, rfl⟩
          replace H : (slices_Concat_byte_byte.l1 k2 y183 l0 (l0.length : Int) (wrap64 (x27_2 + 1))) = some r := by first | (rw [hy183]; with_reducible exact H) | (have H2_ := (Option.bind_some _ _).symm.trans H; rw [hy183]; with_reducible exact H2_) | (have H2_ := (Option.bind_some _ _).symm.trans H; with_reducible exact H2_) | with_reducible exact H | (rw [hy183]; exact H) | exact H
          have Ny183 := aM hy183
          clear hy183
          have H' := aM H
          clear H
          have p182 : 0 ≤ (x27_2 : Int) := of_decide_eq_true (by first | (with_reducible assumption) | assumption)
          have q182 : x27_2 < (l0.length : Int) := of_decide_eq_true (by first | (with_reducible assumption) | assumption)
          obtain ⟨ad182, A182_0, c182_0, e182, hx182_0, hl182_0, hi182_0⟩ := at_L1 HR0.out x27_2 p182 q182
          cases e182
          replace hx182_0 := (HB.out.cell (World.block_lt_of_cell? w _ hx182_0)).trans hx182_0
          have HR182_0 := aM hi182_0
          have HC182_0 := aM hl182_0
          clear hi182_0 hl182_0
          replace p182 := eq_true p182
          replace q182 := eq_true q182
          go_wp2_with (first | ((with_reducible refine gate_builtin (b := .append) (xs := #[.tmp 31, .tmp 32]) rfl ?_); at_builtin; refine Kd.R_append_rows (Kd.int .u8) (w0 := w) w.heap.size rfl (.tmp 31) (.tmp 32) 22 5 (.int .u8 0) 1 rfl Try.underlying22 info5 rfl (by decide) (by omega) u6 x6_2 (rd_L1 l0 x27_2) _ _ _ (fun _ => True) (fun _ => False) rfl rfl ?aO ?aR (fun _ _ h => h) (fun _ h => h.elim) ?aF ?aB ?aS ?aL ?_; (case aR => exact xC (Kd.C_below HR182_0.out HB.out)); (case aB => exact (xB HB.out)); (case aF => exact (fun _ _ => trivial)); (case aO => exact (xR HO_6.out)); (case aS => exact (below_size (xB HB.out))); (case aL => have := LMc11.out; omega); intro v184 w12 ho hb hg hat; rw [← Ny183.out] at ho; have n0_ := aM (hb); have n1_ := aM (ho); clear HB; clear HO_6; have HB := n0_; have HO185 := n1_; clear n0_ n1_; clear ho hb hg hat))
          go_roundg k2
          case measure => have := HK1.out; have := HK2.out; omega
          case rel => exact ⟨(y183), (wrap64 (x27_2 + 1)), (by first | rfl | (simp; done) | (simp [*]; done)), H', ⟨by have := HK1.out; have := HK2.out; omega⟩, ⟨by (with_reducible repeat (first | apply Kd.R_alloc | apply Kd.R_drewN | apply Kd.R_drew)); exact HO185.out⟩, ⟨xB HB.out⟩⟩
         ·
          rw [if_neg c11] at H
          exact absurd H (by simp)
        ·
         rw [if_neg c10] at H
         exact absurd H (by simp)
       ·
        rw [if_neg c9] at H
        exact absurd H (by simp)
      ·
       rw [if_neg c8] at H
       have c8b0 : decide (x27_2 < (l0.length : Int)) = false := decide_eq_false c8
       clear c8
       obtain rfl := Option.some.inj H
       go_wp2
       go_ret
       exact ⟨_, by first | rfl | (simp [errW_none, errW_some] <;> rfl) | (simp [*, errW_none, errW_some] <;> rfl), by (with_reducible repeat (first | apply Kd.R_alloc | apply Kd.R_drewN | apply Kd.R_drew)); exact HO_6.out, xB HB.out⟩
end Go.Proofs.Ythaifibhflfpkaa.Q
end
