/- A part of the claim's own texts: words, walks and plain laws. -/
import Derived.Test.YthaifibhflfpkaaTp2
import Derived.Test.YthaifibhflfpkaaTp6
import Derived.Test.YthaifibhflfpkaaTp4
import Derived.WalkMore
namespace Go.Proofs.YthaifibhflfpkaaX
abbrev b32_ : Array Bool := #[false, false, false, false, false, false, false, false, false]
abbrev b33_ : Array Bool := #[false, false, false, false, false, false, false, false, false, false]
abbrev b34_ : Array Bool := #[true, false, false, false, false, false, false, false, false]
abbrev b35_ : Array Bool := #[true, false, false, false, false, false, false, false, false, false]
abbrev b36_ : Array Bool := #[true, true, false, false, false, false, false, false, false]
abbrev b37_ : Array Bool := #[true, true, false, false, false, false, false, false, false, false]
abbrev b38_ : Array Bool := #[true, true, false, false, false, true, false, false, false]
abbrev b39_ : Array Bool := #[true, true, false, false, false, true, true, false, false]
abbrev b40_ : Array Bool := #[true, true, true, false, false, false, false, false, false, false]
abbrev b41_ : Array Bool := #[true, true, true, false, false, true, false, false, false, false]
abbrev b42_ : Array Bool := #[true, true, true, false, false, true, true, false, false]
abbrev b43_ : Array Bool := #[true, true, true, false, false, true, true, false, false, false]
abbrev b44_ : Array Bool := #[true, true, true, false, false, true, true, true, false, false]
abbrev b45_ : Array Bool := #[true, true, true, true, false, true, true, false, false]
abbrev b46_ : Array Bool := #[true, true, true, true, false, true, true, true, false, false]
abbrev b47_ : Array Bool := #[true, true, true, true, true, true, true, false, false]
abbrev b48_ : Array Bool := #[true, true, true, true, true, true, true, true, false]
abbrev b49_ : Array Bool := #[true, true, true, true, true, true, true, true, false, false]
abbrev b50_ : Array Bool := #[true, true, true, true, true, true, true, true, true]
abbrev b51_ : Array Bool := #[true, true, true, true, true, true, true, true, true, false]
abbrev b52_ : Array Bool := #[true, true, true, true, true, true, true, true, true, true]
end Go.Proofs.YthaifibhflfpkaaX
section
namespace Go.Proofs.Ythaifibhflfpkaa.Q
open Go.RowKit Go.Proofs.YthaifibhflfpkaaW.PrintWords Go.Proofs.YthaifibhflfpkaaW.PrintLast Go.Proofs.YthaifibhflfpkaaW.PrintMore Go.Proofs.YthaifibhflfpkaaX
attribute [local go_sem] max2_int min2_int max_two min_two max_three min_three max_four min_four   -- for this text's walks alone
set_option linter.unusedVariables false
set_option linter.unusedSimpArgs false
def sym_Formed.key (s : ByteArray) : List UInt8 := s.data.toList
def sym_Formed.ok (l : List ByteArray) : Prop := (∀ s ∈ l, 2 ≤ s.size ∧ s.size ≤ 8) ∧ (l.map sym_Formed.key).Nodup
instance (l : List ByteArray) : Decidable (sym_Formed.ok l) := by unfold sym_Formed.ok; exact inferInstance
def sym_Formed.f (l0 : List ByteArray) : Option Bool := some (decide (l0.length ≤ 32) && decide (sym_Formed.ok l0))
theorem sym_Formed.ok_next (l : List ByteArray) (i : Nat) (s : ByteArray) (hs : l[i]? = some s) : sym_Formed.ok (l.take (i + 1)) ↔ sym_Formed.ok (l.take i) ∧ (2 ≤ s.size ∧ s.size ≤ 8) ∧ sym_Formed.key s ∉ (l.take i).map sym_Formed.key := by
 unfold sym_Formed.ok
 rw [List.take_add_one, hs]
 simp only [Option.toList_some, List.mem_append, List.mem_singleton, List.map_append, List.map_cons, List.map_nil, List.nodup_append]
 constructor
 ·
  rintro ⟨h1, h2, _, h3⟩
  exact ⟨⟨fun x hx => h1 x (.inl hx), h2⟩, h1 s (.inr rfl), fun hm => h3 _ hm _ (by simp) rfl⟩
 ·
  rintro ⟨⟨h1, h2⟩, h3, h4⟩
  refine ⟨fun x hx => hx.elim (h1 x) (fun e => e ▸ h3), h2, by simp, ?_⟩
  intro a ha b hb e
  subst hb
  subst e
  exact h4 ha
theorem sym_Formed.ok_take {l : List ByteArray} (h : sym_Formed.ok l) (i : Nat) : sym_Formed.ok (l.take i) :=
 ⟨fun s hs => h.1 s (List.mem_of_mem_take hs), h.2.sublist ((List.take_sublist i l).map _)⟩
def sym_Formed.g (l : List ByteArray) (i : Nat) : List UInt8 → Option Bool := fun y => if y ∈ (l.take i).map sym_Formed.key then some true else none
theorem sym_Formed.g_next (l : List ByteArray) (i : Nat) (s : ByteArray) (hs : l[i]? = some s) : upd (sym_Formed.g l i) (sym_Formed.key s) true = sym_Formed.g l (i + 1) := by
 funext y
 unfold upd sym_Formed.g
 rw [List.take_add_one, hs]
 simp only [Option.toList_some, List.map_append, List.map_cons, List.map_nil, List.mem_append, List.mem_singleton]
 by_cases h : y = sym_Formed.key s
 · simp [h]
 · simp [h]
set_option maxHeartbeats 8000000 in
set_option maxRecDepth 100000 in
theorem sym_Formed.calls (A0 : Option Addr) (c0 : Nat) (l0 : List ByteArray) (r : Bool) (w : World) (hr0 : Kd.C Kd.string w A0 l0.length l0) (hc0 : l0.length ≤ c0) (h : sym_Formed.f l0 = some r) :
  Calls Try.prog 46 #[.slice A0 l0.length c0] w fun e w' => e = .returned (.bool r) ∧ Below w.heap.size w w' := by
 have HR0 := aM hr0
 have HC0 := aM hc0
 clear hr0 hc0
 have HB := aM (Below.refl w.heap.size w)
 have HRV := aM (Option.some.inj h)
 clear h
 have ht : Try.prog.underlying 100 = some (.map 9 4) := by kernel_rfl
 have he : Try.prog.underlying 4 = some .bool := by kernel_rfl
 have hs9 : Try.prog.underlying 9 = some .string := by kernel_rfl
 have HT := aM ht
 have HE := aM he
 have HS := aM hs9
 clear ht he hs9
 have HZ : Aside0 (∀ w : World, (zeroValue 4).run Try.prog w = .ok (.bool false) w) := ⟨fun w => by kernel_rfl⟩
 by_cases c1 : (l0.length : Int) > 32
 ·
  have c1b : decide (32 < (l0.length : Int)) = true := decide_eq_true c1
  have c1c : decide (32 < l0.length) = true := decide_eq_true (by omega)
  have hz : r = false := by
   rw [← HRV.out]
   have : ¬ l0.length ≤ 32 := by omega
   simp [this]
  have HZ1 := aM hz
  clear c1 hz
  go_enter Try.func46, Try.ntmps46
  go_wp2
  go_ret
  obtain rfl := HZ1.out
  exact ⟨rfl, HB.out⟩
 ·
  have c1b : decide (32 < (l0.length : Int)) = false := decide_eq_false c1
  have c1c : decide (32 < l0.length) = false := decide_eq_false (by omega)
  have HL : Aside0 (l0.length ≤ 32) := ⟨by omega⟩
  clear c1
  have hmm := @run_makeMap Try.prog
  go_enter Try.func46, Try.ntmps46
  go_wp2
  go_loopg [12] l0.length (fun kq v12 w' => ∃ (i : Int), v12 = .int .i64 i ∧ Aside0 (0 ≤ i ∧ (kq : Int) + i = l0.length) ∧ Aside0 (MapF Try.prog 9 4 Lit.string Lit.bool w' w.heap.size i.toNat (sym_Formed.g l0 i.toNat)) ∧ Aside0 (sym_Formed.ok (l0.take i.toNat)) ∧ Aside0 (Below w.heap.size w w'))
  case atStart => exact ⟨0, rfl, ⟨by omega, by omega⟩, ⟨MapF.made _ _ _ _ _ _⟩, ⟨by unfold sym_Formed.ok; simp⟩, ⟨below_alloc (Below.refl _ _) _⟩⟩
  case round =>
   clear HB
   obtain ⟨i, rfl, HI, HM, HOK, HB⟩ := hrel
   cases gk with
   | zero =>
    have hi : i = l0.length := by have := HI.out; omega
    have c2b : decide (i < (l0.length : Int)) = false := decide_eq_false (by omega)
    have hz : r = true := by
     rw [← HRV.out]
     have h1 := HL.out
     have h2 := HOK.out
     rw [hi, Int.toNat_natCast, List.take_length] at h2
     simp [h1, h2]
    have HZ1 := aM hz
    clear hi hz
    go_wp2
    go_ret
    obtain rfl := HZ1.out
    exact ⟨rfl, HB.out⟩
   | succ k1 =>
    have c2b : decide (i < (l0.length : Int)) = true := decide_eq_true (by have := HI.out; omega)
    have p1 : 0 ≤ i := HI.out.1
    have q1 : i < (l0.length : Int) := by have := HI.out; omega
    obtain ⟨ad, rfl, hx⟩ := Kd.at_string (Kd.C_below HR0.out HB.out) i p1 q1
    have hg : l0[i.toNat]? = some (rdOf ByteArray.empty l0 i) := by
     unfold rdOf
     rw [List.getD_eq_getElem?_getD, List.getElem?_eq_getElem (by omega)]
     rfl
    obtain ⟨s, hs⟩ : ∃ s, s = rdOf ByteArray.empty l0 i := ⟨_, rfl⟩
    rw [← hs] at hx hg
    clear hs
    have HG := aM hg
    clear hg
    replace p1 := eq_true p1
    replace q1 := eq_true q1
    by_cases d1 : (s.size : Int) < 2
    ·
     have d1b : decide ((s.size : Int) < 2) = true := decide_eq_true d1
     have d1c : decide (s.size < 2) = true := decide_eq_true (by omega)
     have hz : r = false := by
      rw [← HRV.out]
      have : ¬ sym_Formed.ok l0 := fun h => by have := (h.1 s (List.mem_of_getElem? HG.out)).1; omega
      simp [this]
     have HZ1 := aM hz
     clear d1 hz
     go_wp2
     go_ret
     obtain rfl := HZ1.out
     exact ⟨rfl, HB.out⟩
    ·
     have d1b : decide ((s.size : Int) < 2) = false := decide_eq_false d1
     have d1c : decide (s.size < 2) = false := decide_eq_false (by omega)
     by_cases d2 : (s.size : Int) > 8
     ·
      have d2b : decide (8 < (s.size : Int)) = true := decide_eq_true d2
      have d2c : decide (8 < s.size) = true := decide_eq_true (by omega)
      have hz : r = false := by
       rw [← HRV.out]
       have : ¬ sym_Formed.ok l0 := fun h => by have := (h.1 s (List.mem_of_getElem? HG.out)).2; omega
       simp [this]
      have HZ1 := aM hz
      clear d1 d2 hz
      go_wp2
      go_ret
      obtain rfl := HZ1.out
      exact ⟨rfl, HB.out⟩
     ·
      have d2b : decide (8 < (s.size : Int)) = false := decide_eq_false d2
      have d2c : decide (8 < s.size) = false := decide_eq_false (by omega)
      have hkey : keyOf Try.prog 9 (.string s) = some (.string s.data.toList) := Go.WideMaps.keyOf_string_mk HS.out (by unfold maxLen; omega)
      have HK := aM hkey
      clear hkey
      have hlk := HM.out.look_bool (Maps.string_keyed HS.out) HT.out HE.out (HZ.out _) (sym_Formed.key s) HK.out
      by_cases d3 : sym_Formed.key s ∈ (l0.take i.toNat).map sym_Formed.key
      ·
       have hgt : (sym_Formed.g l0 i.toNat (sym_Formed.key s)).getD false = true := by unfold sym_Formed.g; rw [if_pos d3]; rfl
       rw [hgt] at hlk
       have hz : r = false := by
        rw [← HRV.out]
        have : ¬ sym_Formed.ok l0 := fun h => ((sym_Formed.ok_next l0 i.toNat s HG.out).1 (sym_Formed.ok_take h _)).2.2 d3
        simp [this]
       have HZ1 := aM hz
       clear d1 d2 d3 hz hgt
       go_wp2
       go_ret
       obtain rfl := HZ1.out
       exact ⟨rfl, HB.out⟩
      ·
       have hgt : (sym_Formed.g l0 i.toNat (sym_Formed.key s)).getD false = false := by unfold sym_Formed.g; rw [if_neg d3]; rfl
       rw [hgt] at hlk
       have HN : Aside0 (sym_Formed.ok (l0.take (i.toNat + 1))) := ⟨(sym_Formed.ok_next l0 i.toNat s HG.out).2 ⟨HOK.out, ⟨by omega, by omega⟩, d3⟩⟩
       clear d1 d2 d3 hgt
       go_wp2_with (first | (at_mapUpdate; refine map_store rfl _ _ _ 100 rfl (Maps.string_keyed HS.out) HT.out rfl HM.out (by have := HI.out; have := HL.out; unfold maxLen; omega) (fun x y h => by injection h) _ _ (sym_Formed.key s) true rfl rfl HK.out (plainElem_bool HE.out true) ?_; intro w1 hm1 hg1; have HM1 := aM hm1; have HB1 := aM (below_mapped HB.out hg1 (Nat.le_refl _) (below_size HB.out)); clear hm1 hg1))
       go_roundg k1
       case measure => omega
       case rel =>
        have hi := HI.out
        have hl := HL.out
        have hw : wrap64 (i + 1) = i + 1 := by unfold wrap64; omega
        have hn : (i + 1).toNat = i.toNat + 1 := by omega
        have hm2 := HM1.out
        rw [sym_Formed.g_next l0 i.toNat s HG.out, ← hn] at hm2
        have hn2 := HN.out
        rw [← hn] at hn2
        exact ⟨i + 1, (by rw [hw]), ⟨by omega, by omega⟩, ⟨hm2⟩, ⟨hn2⟩, ⟨HB1.out⟩⟩
def sym_PutTable.l0 : Nat → List Int → List ByteArray → Int → Int → Option (List Int × Int)
 | 0, _, _, _, _ => none
 | k + 1, x6, x17, x18, x19 => if x19 < x18 then (if 0 ≤ x19 then (if x19 < (x17.length : Int) then ((strBytes.f (rdOf ByteArray.empty x17 x19)).bind fun t151 => ((num_PutRow.f k x6 t151).bind fun t154 => (sym_PutTable.l0 k t154 x17 x18 (wrap64 (x19 + 1))))) else (none)) else (none)) else (some (x6, 0))
def sym_PutTable.f (k : Nat) (l0 : List Int) (l1 : List ByteArray) : Option (List Int × Int) := (sym_Formed.f l1).bind fun t146 => (if t146 = true then ((num_Put.f k l0 (IntKind.u64.wrap ((l1.length : Int)))).bind fun t147 => (sym_PutTable.l0 k t147 l1 (l1.length : Int) 0)) else (some (([] : List Int), 1)))
set_option maxHeartbeats 8000000 in
set_option maxRecDepth 100000 in
theorem sym_PutTable.calls (k : Nat) (A0 : Option Addr) (c0 : Nat) (l0 : List Int) (A1 : Option Addr) (c1 : Nat) (l1 : List ByteArray) (r1 : List Int) (r2 : Int) (w : World) (hr0 : Kd.C (Kd.int .u8) w A0 l0.length l0) (hc0 : l0.length ≤ c0) (hr1 : Kd.C Kd.string w A1 l1.length l1) (hc1 : l1.length ≤ c1) (h : sym_PutTable.f k l0 l1 = some (r1, r2)) :
  Calls Try.prog 19 #[.slice A0 l0.length c0, .slice A1 l1.length c1] w fun e w' => ∃ v0_ : Value, e = .returned (.tuple #[v0_, .int .i64 r2]) ∧ Kd.R (Kd.int .u8) 5 w' w.heap.size (fun _ => True) v0_ r1 ∧ Below w.heap.size w w' := by
 have HR0 := aM hr0
 have HC0 := aM hc0
 clear hr0 hc0
 have HR1 := aM hr1
 have HC1 := aM hc1
 clear hr1 hc1
 have HB := aM (Below.refl w.heap.size w)
 have H : ((sym_Formed.f l1).bind fun t146 => (if t146 = true then ((num_Put.f k l0 (IntKind.u64.wrap ((l1.length : Int)))).bind fun t147 => (sym_PutTable.l0 k t147 l1 (l1.length : Int) 0)) else (some (([] : List Int), 1)))) = some (r1, r2) := h
 clear h
 replace H := Option.bind_eq_some_iff.mp H
 obtain ⟨t146, A30, H⟩ := H
 replace H : (if t146 = true then ((num_Put.f k l0 (IntKind.u64.wrap ((l1.length : Int)))).bind fun t147 => (sym_PutTable.l0 k t147 l1 (l1.length : Int) 0)) else (some (([] : List Int), 1))) = some (r1, r2) := H
 have A3 := aM A30
 clear A30
 by_cases c4 : t146 = true
 ·
  subst c4
  have H1 : ((num_Put.f k l0 (IntKind.u64.wrap ((l1.length : Int)))).bind fun t147 => (sym_PutTable.l0 k t147 l1 (l1.length : Int) 0)) = some (r1, r2) := by rw [if_pos rfl] at H; exact H
  clear H
  have H := H1
  clear H1
  replace H := Option.bind_eq_some_iff.mp H
  obtain ⟨t147, A50, H⟩ := H
  replace H : (sym_PutTable.l0 k t147 l1 (l1.length : Int) 0) = some (r1, r2) := H
  have A5 := aM A50
  clear A50
  have H' := aM H
  clear H
  go_enter Try.func19, Try.ntmps19
  go_wp2_with (first | ((with_reducible refine gate_callee (f := 46) rfl ?_); refine goesL_ (some 10) rfl rfl Try.func46 (by kernel_rfl) rfl #[.slice A1 l1.length c1] rfl (by (try simp only [List.map_toArray, List.map_cons, List.map_nil]); first | done | rfl | (simp only [List.length_drop, List.length_take]; rfl)) ?_; (with_reducible refine (sym_Formed.calls _ _ l1 true _ ?side1 ?side2 A3.out).mono ?_); (case side1 => exact xC HR1.out); (case side2 => exact HC1.out); rintro e w6 ⟨rfl, hb⟩; refine ⟨_, rfl, ?_⟩; have n0_ := aM (below_step (xB HB.out) hb); clear HB; have HB := n0_; clear n0_; (try clear hb); (try clear hb2); (try clear hk); (try clear hi)) | ((with_reducible refine gate_callee (f := 47) rfl ?_); refine goesL_ (some 16) rfl rfl Try.func47 (by kernel_rfl) rfl #[.slice A0 l0.length c0, .int .u64 (IntKind.u64.wrap ((l1.length : Int)))] rfl (by (try simp only [List.map_toArray, List.map_cons, List.map_nil]); first | done | rfl | (simp only [List.length_drop, List.length_take]; rfl)) ?_; (with_reducible refine (num_Put.calls k _ _ l0 (IntKind.u64.wrap ((l1.length : Int))) t147 _ ?side1 ?side2 A5.out).mono ?_); (case side1 => exact xC (Kd.C_below HR0.out HB.out)); (case side2 => exact HC0.out); rintro e w7 ⟨v148, rfl, ho0, hb⟩; refine ⟨_, rfl, ?_⟩; have n0_ := aM (Kd.R_lower ho0 (below_size (xB HB.out))); have n1_ := aM (below_step (xB HB.out) hb); clear HB; have HO149 := n0_; have HB := n1_; clear n0_ n1_; (try clear hb); (try clear hb2); (try clear hk); (try clear hi); (try clear ho0)))
  go_loopg [6, 19] k (fun kq v6 v19 w' => ∃ (x6_1 : List Int) (x19_1 : Int), v19 = .int .i64 x19_1 ∧ Aside0 (sym_PutTable.l0 kq x6_1 l1 (l1.length : Int) x19_1 = some (r1, r2)) ∧ Aside0 (kq ≤ k) ∧ Aside0 (Kd.R (Kd.int .u8) 5 w' w.heap.size (fun _ => True) v6 x6_1) ∧ Aside0 (Below w.heap.size w w'))
  case atStart => exact ⟨(t147), (0), (by first | rfl | (simp; done) | (simp [*]; done)), H', ⟨Nat.le_refl _⟩, ⟨by (with_reducible repeat (first | apply Kd.R_alloc | apply Kd.R_drewN | apply Kd.R_drew)); exact HO149.out⟩, ⟨xB HB.out⟩⟩
  case round =>
   clear H'
   try clear c1
   try clear p2
   try clear c4
   obtain ⟨x6_1, x19_1, rfl, HA, HK1, HO_6, HB⟩ := hrel
   cases gk with
   | zero => exact absurd HA.out (by simp [sym_PutTable.l0])
   | succ k1 =>
    have H := HA.out
    clear HA
    simp only [sym_PutTable.l0] at H
    by_cases c8 : x19_1 < (l1.length : Int)
    ·
     rw [if_pos c8] at H
     have c8b0 : decide (x19_1 < (l1.length : Int)) = true := decide_eq_true c8
     clear c8
     by_cases c9 : 0 ≤ x19_1
     ·
      rw [if_pos c9] at H
      have c9b0 : decide (0 ≤ x19_1) = true := decide_eq_true c9
      clear c9
      by_cases c10 : x19_1 < (l1.length : Int)
      ·
       rw [if_pos c10] at H
       have c10b0 : decide (x19_1 < (l1.length : Int)) = true := decide_eq_true c10
       clear c10
       replace H := Option.bind_eq_some_iff.mp H
       obtain ⟨t151, A110, H⟩ := H
       replace H : ((num_PutRow.f k1 x6_1 t151).bind fun t154 => (sym_PutTable.l0 k1 t154 l1 (l1.length : Int) (wrap64 (x19_1 + 1)))) = some (r1, r2) := H
       have A11 := aM A110
       clear A110
       replace H := Option.bind_eq_some_iff.mp H
       obtain ⟨t154, A120, H⟩ := H
       replace H : (sym_PutTable.l0 k1 t154 l1 (l1.length : Int) (wrap64 (x19_1 + 1))) = some (r1, r2) := H
       have A12 := aM A120
       clear A120
       have H' := aM H
       clear H
       have p150 : 0 ≤ (x19_1 : Int) := of_decide_eq_true (by first | (with_reducible assumption) | assumption)
       have q150 : x19_1 < (l1.length : Int) := of_decide_eq_true (by first | (with_reducible assumption) | assumption)
       obtain ⟨ad150, e150, hx150_0⟩ := Kd.at_string HR1.out x19_1 p150 q150
       cases e150
       replace hx150_0 := (HB.out.cell (World.block_lt_of_cell? w _ hx150_0)).trans hx150_0
       replace p150 := eq_true p150
       replace q150 := eq_true q150
       go_wp2_with (first | ((with_reducible refine gate_dst (N := 25) rfl ?_); refine bytes_event rfl 9 22 5 _ rfl Try.underlying9 Try.underlying22 Try.underlying5 (rdOf ByteArray.empty l1 x19_1) rfl _ A11.out ?_; intro v152 w13 ho0 hb; have n0_ := aM (Kd.R_below (xR HO_6.out) hb); have n1_ := aM (Kd.V_lower (Kd.V_mono (ok' := fun k_ => some k_ ≠ (u6 : Value).ownBlock) ho0 (fun k_ hk_ => (Kd.fresh' (Kd.R_lt (xR HO_6.out)) k_ hk_))) (below_size (xB HB.out))); have n2_ := aM (below_step (xB HB.out) hb); clear HO_6; clear HB; have HO_6 := n0_; have HO153 := n1_; have HB := n2_; clear n0_ n1_ n2_; (try clear hb); (try clear hb2); (try clear hk); (try clear hi); (try clear ho0); obtain ⟨Ao14, co14, eo14⟩ := Kd.R_slice HO_6.out; subst eo14; obtain ⟨Ao15, co15, eo15⟩ := Kd.V_slice HO153.out; subst eo15) | ((with_reducible refine gate_callee (f := 22) rfl ?_); refine goesL_ (some 26) rfl rfl Try.func22 (by kernel_rfl) rfl #[.slice Ao14 x6_1.length co14, .slice Ao15 t151.length co15] rfl (by (try simp only [List.map_toArray, List.map_cons, List.map_nil]); first | done | rfl | (simp only [List.length_drop, List.length_take]; rfl)) ?_; (with_reducible refine (num_PutRow.calls k1 _ _ x6_1 _ _ t151 t154 _ ?side1 ?side2 ?side3 ?side4 A12.out).mono ?_); (case side1 => exact xC ((Kd.R_reads' HO_6.out).2.2)); (case side2 => exact (Kd.R_reads' HO_6.out).2.1); (case side3 => exact xC ((Kd.V_reads' HO153.out).2.2)); (case side4 => exact (Kd.V_reads' HO153.out).2.1); rintro e w16 ⟨v155, rfl, ho0, hb⟩; refine ⟨_, rfl, ?_⟩; have n0_ := aM (Kd.R_elder' (xR HO_6.out) (Kd.R_base ho0) hb); have n1_ := aM (Kd.V_elder' (xV HO153.out) (Kd.R_base ho0) hb); have n2_ := aM (Kd.R_lower (Kd.R_new' ho0 (Kd.R_lt (xR HO_6.out))) (below_size (xB HB.out))); have n3_ := aM (below_step (xB HB.out) hb); clear HO_6; clear HO153; clear HB; have HO_6 := n0_; have HO153 := n1_; have HO156 := n2_; have HB := n3_; clear n0_ n1_ n2_ n3_; (try clear hb); (try clear hb2); (try clear hk); (try clear hi); (try clear ho0)))
       go_roundg k1
       case measure => have := HK1.out; omega
       case rel => exact ⟨(t154), (wrap64 (x19_1 + 1)), (by first | rfl | (simp; done) | (simp [*]; done)), H', ⟨by have := HK1.out; omega⟩, ⟨by (with_reducible repeat (first | apply Kd.R_alloc | apply Kd.R_drewN | apply Kd.R_drew)); exact Kd.R_mono HO156.out (fun _ hk => trivial)⟩, ⟨xB HB.out⟩⟩
      ·
       rw [if_neg c10] at H
       exact absurd H (by simp)
     ·
      rw [if_neg c9] at H
      exact absurd H (by simp)
    ·
     rw [if_neg c8] at H
     have c8b0 : decide (x19_1 < (l1.length : Int)) = false := decide_eq_false c8
     clear c8
     simp only [Option.some.injEq, Prod.mk.injEq] at H
     obtain ⟨rfl, rfl⟩ := H
     go_wp2
     go_ret2
     exact ⟨_, by first | rfl | (simp [errW_none, errW_some] <;> rfl) | (simp [*, errW_none, errW_some] <;> rfl), by (with_reducible repeat (first | apply Kd.R_alloc | apply Kd.R_drewN | apply Kd.R_drew)); exact HO_6.out, xB HB.out⟩
 ·
  replace c4 := Bool.eq_false_iff.mpr c4
  subst c4
  have H1 : (some (([] : List Int), 1)) = some (r1, r2) := by rw [if_neg (show ¬ (false = true) by decide)] at H; exact H
  clear H
  have H := H1
  clear H1
  simp only [Option.some.injEq, Prod.mk.injEq] at H
  obtain ⟨rfl, rfl⟩ := H
  go_enter Try.func19, Try.ntmps19
  go_wp2_with (first | ((with_reducible refine gate_callee (f := 46) rfl ?_); refine goesL_ (some 10) rfl rfl Try.func46 (by kernel_rfl) rfl #[.slice A1 l1.length c1] rfl (by (try simp only [List.map_toArray, List.map_cons, List.map_nil]); first | done | rfl | (simp only [List.length_drop, List.length_take]; rfl)) ?_; (with_reducible refine (sym_Formed.calls _ _ l1 false _ ?side1 ?side2 A3.out).mono ?_); (case side1 => exact xC HR1.out); (case side2 => exact HC1.out); rintro e w17 ⟨rfl, hb⟩; refine ⟨_, rfl, ?_⟩; have n0_ := aM (below_step (xB HB.out) hb); clear HB; have HB := n0_; clear n0_; (try clear hb); (try clear hb2); (try clear hk); (try clear hi)))
  go_ret2
  exact ⟨_, by first | rfl | (simp [errW_none, errW_some] <;> rfl) | (simp [*, errW_none, errW_some] <;> rfl), by first | exact Kd.R_nil _ _ _ _ _ | exact Kd.N_nil _ _ _ _ _ | exact Kd.V_nil _ _ _ _ _ | exact Kd.Q_nil _ _ _ _ _ | exact Kd.S_nil _ _ _ _ _, xB HB.out⟩
def r06_Table.l0 : Nat → List ByteArray → List Int → Int → Option (List Int)
 | 0, _, _, _ => none
 | k + 1, x0, x3, x4 => if x4 < (x0.length : Int) then (if 0 ≤ x4 then ((strBytes.f (rdOf ByteArray.empty x0 x4)).bind fun t451 => ((r02_Row.f k t451).bind fun t454 => (if x3.length + t454.length < 140737488355328 then (r06_Table.l0 k x0 (x3 ++ t454) (wrap64 (x4 + 1))) else (none)))) else (none)) else (some x3)
def r06_Table.f (k : Nat) (l0 : List ByteArray) : Option (List Int) := (r02_Bytes.f k (IntKind.u64.wrap ((l0.length : Int)))).bind fun t447 => (r06_Table.l0 k l0 t447 0)
set_option maxHeartbeats 8000000 in
set_option maxRecDepth 100000 in
theorem r06_Table.calls (k : Nat) (A0 : Option Addr) (c0 : Nat) (l0 : List ByteArray) (r : List Int) (w : World) (hr0 : Kd.C Kd.string w A0 l0.length l0) (hc0 : l0.length ≤ c0) (h : r06_Table.f k l0 = some r) :
  Calls Try.prog 28 #[.slice A0 l0.length c0] w fun e w' => ∃ v0_ : Value, e = .returned (v0_) ∧ Kd.R (Kd.int .u8) 5 w' w.heap.size (fun _ => True) v0_ r ∧ Below w.heap.size w w' := by
 have HR0 := aM hr0
 have HC0 := aM hc0
 clear hr0 hc0
 have HB := aM (Below.refl w.heap.size w)
 have H : ((r02_Bytes.f k (IntKind.u64.wrap ((l0.length : Int)))).bind fun t447 => (r06_Table.l0 k l0 t447 0)) = some r := h
 clear h
 replace H := Option.bind_eq_some_iff.mp H
 obtain ⟨t447, A20, H⟩ := H
 replace H : (r06_Table.l0 k l0 t447 0) = some r := H
 have A2 := aM A20
 clear A20
 have H' := aM H
 clear H
 go_enter Try.func28, Try.ntmps28
 go_wp2_with (first | ((with_reducible refine gate_callee (f := 56) rfl ?_); refine goesL_ (some 8) rfl rfl Try.func56 (by kernel_rfl) rfl #[.int .u64 (IntKind.u64.wrap ((l0.length : Int)))] rfl (by (try simp only [List.map_toArray, List.map_cons, List.map_nil]); first | done | rfl | (simp only [List.length_drop, List.length_take]; rfl)) ?_; (with_reducible refine (r02_Bytes.calls k (IntKind.u64.wrap ((l0.length : Int))) t447 _ A2.out).mono ?_); rintro e w3 ⟨v448, rfl, ho0, hb⟩; refine ⟨_, rfl, ?_⟩; have n0_ := aM (Kd.R_lower ho0 (below_size (xB HB.out))); have n1_ := aM (below_step (xB HB.out) hb); clear HB; have HO449 := n0_; have HB := n1_; clear n0_ n1_; (try clear hb); (try clear hb2); (try clear hk); (try clear hi); (try clear ho0)))
 go_loopg [3, 4] k (fun kq v3 v4 w' => ∃ (x3_1 : List Int) (x4_1 : Int), v4 = .int .i64 x4_1 ∧ Aside0 (r06_Table.l0 kq l0 x3_1 x4_1 = some r) ∧ Aside0 (kq ≤ k) ∧ Aside0 (Kd.R (Kd.int .u8) 5 w' w.heap.size (fun _ => True) v3 x3_1) ∧ Aside0 (Below w.heap.size w w'))
 case atStart => exact ⟨(t447), (0), (by first | rfl | (simp; done) | (simp [*]; done)), H', ⟨Nat.le_refl _⟩, ⟨by (with_reducible repeat (first | apply Kd.R_alloc | apply Kd.R_drewN | apply Kd.R_drew)); exact HO449.out⟩, ⟨xB HB.out⟩⟩
 case round =>
  clear H'
  try clear c2
  try clear p2
  obtain ⟨x3_1, x4_1, rfl, HA, HK1, HO_3, HB⟩ := hrel
  cases gk with
  | zero => exact absurd HA.out (by simp [r06_Table.l0])
  | succ k1 =>
   have H := HA.out
   clear HA
   simp only [r06_Table.l0] at H
   by_cases c4 : x4_1 < (l0.length : Int)
   ·
    rw [if_pos c4] at H
    have c4b0 : decide (x4_1 < (l0.length : Int)) = true := decide_eq_true c4
    clear c4
    by_cases c5 : 0 ≤ x4_1
    ·
     rw [if_pos c5] at H
     have c5b0 : decide (0 ≤ x4_1) = true := decide_eq_true c5
     clear c5
     replace H := Option.bind_eq_some_iff.mp H
     obtain ⟨t451, A60, H⟩ := H
     replace H : ((r02_Row.f k1 t451).bind fun t454 => (if x3_1.length + t454.length < 140737488355328 then (r06_Table.l0 k1 l0 (x3_1 ++ t454) (wrap64 (x4_1 + 1))) else (none))) = some r := H
     have A6 := aM A60
     clear A60
     replace H := Option.bind_eq_some_iff.mp H
     obtain ⟨t454, A70, H⟩ := H
     replace H : (if x3_1.length + t454.length < 140737488355328 then (r06_Table.l0 k1 l0 (x3_1 ++ t454) (wrap64 (x4_1 + 1))) else (none)) = some r := H
     have A7 := aM A70
     clear A70
     by_cases c8 : x3_1.length + t454.length < 140737488355328
     ·
      rw [if_pos c8] at H
      have LMc8 := aM c8
      clear c8
      obtain ⟨y457, hy457⟩ : ∃ y_ : List Int, y_ = (x3_1 ++ t454) := ⟨_, rfl⟩
      replace H : (r06_Table.l0 k1 l0 y457 (wrap64 (x4_1 + 1))) = some r := by first | (rw [hy457]; with_reducible exact H) | (have H2_ := (Option.bind_some _ _).symm.trans H; rw [hy457]; with_reducible exact H2_) | (have H2_ := (Option.bind_some _ _).symm.trans H; with_reducible exact H2_) | with_reducible exact H | (rw [hy457]; exact H) | exact H
      have Ny457 := aM hy457
      clear hy457
      have H' := aM H
      clear H
      have p450 : 0 ≤ (x4_1 : Int) := of_decide_eq_true (by first | (with_reducible assumption) | assumption)
      have q450 : x4_1 < (l0.length : Int) := of_decide_eq_true (by first | (with_reducible assumption) | assumption)
      obtain ⟨ad450, e450, hx450_0⟩ := Kd.at_string HR0.out x4_1 p450 q450
      cases e450
      replace hx450_0 := (HB.out.cell (World.block_lt_of_cell? w _ hx450_0)).trans hx450_0
      replace p450 := eq_true p450
      replace q450 := eq_true q450
      go_wp2_with (first | ((with_reducible refine gate_dst (N := 20) rfl ?_); refine bytes_event rfl 9 22 5 _ rfl Try.underlying9 Try.underlying22 Try.underlying5 (rdOf ByteArray.empty l0 x4_1) rfl _ A6.out ?_; intro v452 w9 ho0 hb; have n0_ := aM (Kd.R_below (xR HO_3.out) hb); have n1_ := aM (Kd.V_lower (Kd.V_mono (ok' := fun k_ => some k_ ≠ (u3 : Value).ownBlock) ho0 (fun k_ hk_ => (Kd.fresh' (Kd.R_lt (xR HO_3.out)) k_ hk_))) (below_size (xB HB.out))); have n2_ := aM (below_step (xB HB.out) hb); clear HO_3; clear HB; have HO_3 := n0_; have HO453 := n1_; have HB := n2_; clear n0_ n1_ n2_; (try clear hb); (try clear hb2); (try clear hk); (try clear hi); (try clear ho0); obtain ⟨Ao10, co10, eo10⟩ := Kd.V_slice HO453.out; subst eo10) | ((with_reducible refine gate_callee (f := 30) rfl ?_); refine goesL_ (some 21) rfl rfl Try.func30 (by kernel_rfl) rfl #[.slice Ao10 t451.length co10] rfl (by (try simp only [List.map_toArray, List.map_cons, List.map_nil]); first | done | rfl | (simp only [List.length_drop, List.length_take]; rfl)) ?_; (with_reducible refine (r02_Row.calls k1 _ _ t451 t454 _ ?side1 ?side2 A7.out).mono ?_); (case side1 => exact xC ((Kd.V_reads' HO453.out).2.2)); (case side2 => exact (Kd.V_reads' HO453.out).2.1); rintro e w11 ⟨v455, rfl, ho0, hb⟩; refine ⟨_, rfl, ?_⟩; have n0_ := aM (Kd.R_elder' (xR HO_3.out) (Kd.R_base ho0) hb); have n1_ := aM (Kd.V_elder' (xV HO453.out) (Kd.R_base ho0) hb); have n2_ := aM (Kd.R_lower (Kd.R_new' ho0 (Kd.R_lt (xR HO_3.out))) (below_size (xB HB.out))); have n3_ := aM (below_step (xB HB.out) hb); clear HO_3; clear HO453; clear HB; have HO_3 := n0_; have HO453 := n1_; have HO456 := n2_; have HB := n3_; clear n0_ n1_ n2_ n3_; (try clear hb); (try clear hb2); (try clear hk); (try clear hi); (try clear ho0); obtain ⟨Ao13, co13, eo13⟩ := Kd.R_slice HO456.out; subst eo13) | ((with_reducible refine gate_builtin (b := .append) (xs := #[.tmp 15, .tmp 21]) rfl ?_); at_builtin; refine Kd.R_append_rows (Kd.int .u8) (w0 := w) w.heap.size rfl (.tmp 15) (.tmp 21) 22 5 (.int .u8 0) 1 rfl Try.underlying22 info5 rfl (by decide) (by omega) u3 x3_1 t454 _ _ _ (fun k_ => some k_ ≠ (.slice Ao13 t454.length co13 : Value).ownBlock) (fun _ => False) rfl rfl ?aO ?aR (fun _ _ h => h) (fun _ h => h.elim) ?aF ?aB ?aS ?aL ?_; (case aR => exact xC ((Kd.R_reads' HO456.out).2.2)); (case aB => exact (xB HB.out)); (case aF => exact (fun k_ hk => Kd.fresh' (Kd.R_lt (xR HO456.out)) k_ hk)); (case aO => exact (by (with_reducible repeat (first | apply Kd.R_alloc | apply Kd.R_drewN | apply Kd.R_drew)); exact Kd.R_mono HO_3.out (fun _ hk => hk.2))); (case aS => exact (below_size (xB HB.out))); (case aL => have := LMc8.out; omega); intro v458 w12 ho hb hg hat; rw [← Ny457.out] at ho; have n0_ := aM (Kd.V_afterv (ok := (fun k_ => some k_ ≠ (.slice Ao13 t454.length co13 : Value).ownBlock)) (by (with_reducible repeat (first | apply Kd.V_alloc | apply Kd.V_drewN | apply Kd.V_drew)); exact Kd.V_mono HO453.out (fun _ hk => ⟨hk.2, hk.1⟩)) hg hat); have n1_ := aM (Kd.R_after (ok := (fun _ => True)) (xR HO456.out) hg hat); have n2_ := aM (hb); have n3_ := aM (ho); clear HO453; clear HO456; clear HB; clear HO_3; have HO453 := n0_; have HO456 := n1_; have HB := n2_; have HO459 := n3_; clear n0_ n1_ n2_ n3_; clear ho hb hg hat))
      go_roundg k1
      case measure => have := HK1.out; omega
      case rel => exact ⟨(y457), (wrap64 (x4_1 + 1)), (by first | rfl | (simp; done) | (simp [*]; done)), H', ⟨by have := HK1.out; omega⟩, ⟨by (with_reducible repeat (first | apply Kd.R_alloc | apply Kd.R_drewN | apply Kd.R_drew)); exact Kd.R_mono HO459.out (fun _ hk => trivial)⟩, ⟨xB HB.out⟩⟩
     ·
      rw [if_neg c8] at H
      exact absurd H (by simp)
    ·
     rw [if_neg c5] at H
     exact absurd H (by simp)
   ·
    rw [if_neg c4] at H
    have c4b0 : decide (x4_1 < (l0.length : Int)) = false := decide_eq_false c4
    clear c4
    obtain rfl := Option.some.inj H
    go_wp2
    go_ret
    exact ⟨_, by first | rfl | (simp [errW_none, errW_some] <;> rfl) | (simp [*, errW_none, errW_some] <;> rfl), by (with_reducible repeat (first | apply Kd.R_alloc | apply Kd.R_drewN | apply Kd.R_drew)); exact HO_3.out, xB HB.out⟩
end Go.Proofs.Ythaifibhflfpkaa.Q
end
section
namespace Go.Proofs.Ythaifibhflfpkaa.Q
open Go.RowKit Go.Proofs.YthaifibhflfpkaaW.PrintWords Go.Proofs.YthaifibhflfpkaaW.PrintLast Go.Proofs.YthaifibhflfpkaaW.PrintMore Go.Proofs.YthaifibhflfpkaaX
namespace Law
def rowsB (t : List ByteArray) : List Int := t.flatMap fun s => rowB (bytesOf s)
def tabB (t : List ByteArray) : List Int := numB t.length ++ rowsB t
theorem strBytes_small (s : ByteArray) (h : s.size ≤ 8) : strBytes.f s = some (bytesOf s) := if_pos (by omega)
theorem rowB_small (s : ByteArray) (h : s.size ≤ 8) : (rowB (bytesOf s)).length ≤ 17 := by
  unfold rowB
  have := (numB_length (bytesOf s).length).2 (by rw [bytesOf_length]; omega)
  rw [List.length_append, bytesOf_length] at *
  omega
theorem rowsB_length : ∀ t : List ByteArray, (∀ s ∈ t, s.size ≤ 8) → (rowsB t).length ≤ 17 * t.length
  | [], _ => by simp [rowsB]
  | s :: t, h => by
    have h1 := rowsB_length t (fun z hz => h z (by simp [hz]))
    have h2 := rowB_small s (h s (by simp))
    unfold rowsB at *
    rw [List.flatMap_cons, List.length_append, List.length_cons]
    omega
theorem rdOf_at (t : List ByteArray) (i : Nat) (h : i < t.length) : rdOf ByteArray.empty t (i : Int) = t[i] := by
  unfold rdOf
  rw [Int.toNat_natCast, List.getD_eq_getElem?_getD, List.getElem?_eq_getElem h]
  rfl
theorem tab_loop (t : List ByteArray) (ht : ∀ s ∈ t, s.size ≤ 8) (hl : t.length ≤ 32) : ∀ (n i : Nat) (x : List Int), i + n = t.length → x.length ≤ 100 + 17 * i → Ev (fun k => sym_PutTable.l0 k x t (t.length : Int) (i : Int)) (x ++ rowsB (t.drop i), 0)
  | 0, i, x, hn, hx => by
    refine Ev.step (f := fun _ => some (x, 0)) (fun k => ?_) ?_
    · rw [sym_PutTable.l0, if_neg (by omega)]
    · rw [List.drop_eq_nil_of_le (by omega)]
      simpa [rowsB] using Ev.now (x, (0 : Int))
  | n + 1, i, x, hn, hx => by
    have hi : i < t.length := by omega
    have hs := ht t[i] (List.getElem_mem hi)
    refine Ev.step (f := fun k => (num_PutRow.f k x (bytesOf t[i])).bind fun y => sym_PutTable.l0 k y t (t.length : Int) ((i + 1 : Nat) : Int)) (fun k => ?_) ?_
    · rw [sym_PutTable.l0, if_pos (by omega), if_pos (by omega), if_pos (by omega), rdOf_at t i hi, strBytes_small _ hs]
      have hw : wrap64 ((i : Int) + 1) = ((i + 1 : Nat) : Int) := by unfold wrap64; omega
      rw [hw]
      rfl
    · refine Ev.bind (putRow x (bytesOf t[i]) (by rw [bytesOf_length]; omega)) ?_
      have h := tab_loop t ht hl n (i + 1) (x ++ rowB (bytesOf t[i])) (by omega) (by have := rowB_small t[i] hs; rw [List.length_append]; omega)
      rw [List.append_assoc] at h
      have e : rowB (bytesOf t[i]) ++ rowsB (t.drop (i + 1)) = rowsB (t.drop i) := by
        rw [List.drop_eq_getElem_cons hi]
        rfl
      rw [e] at h
      exact h
theorem putTable (t : List ByteArray) (h : sym_Formed.f t = some true) (ht : ∀ s ∈ t, s.size ≤ 8) (hl : t.length ≤ 32) : Ev (fun k => sym_PutTable.f k [] t) (tabB t, 0) := by
  unfold sym_PutTable.f
  refine Ev.get h (Ev.pos rfl ?_)
  rw [wrapu _ (by omega)]
  refine Ev.bind (put [] t.length (by omega) (by simp)) ?_
  have h1 := tab_loop t ht hl t.length 0 ([] ++ numB t.length) (by omega) (by have := (numB_length t.length).2 (by omega); simp; omega)
  exact h1
theorem table_loop (t : List ByteArray) (ht : ∀ s ∈ t, s.size ≤ 8) (hl : t.length ≤ 32) : ∀ (n i : Nat) (x : List Int), i + n = t.length → x.length ≤ 100 + 17 * i → Ev (fun k => r06_Table.l0 k t x (i : Int)) (x ++ rowsB (t.drop i))
  | 0, i, x, hn, hx => by
    refine Ev.step (f := fun _ => some x) (fun k => ?_) ?_
    · rw [r06_Table.l0, if_neg (by omega)]
    · rw [List.drop_eq_nil_of_le (by omega)]
      simpa [rowsB] using Ev.now x
  | n + 1, i, x, hn, hx => by
    have hi : i < t.length := by omega
    have hs := ht t[i] (List.getElem_mem hi)
    have hr := rowB_small t[i] hs
    refine Ev.step (f := fun k => (r02_Row.f k (bytesOf t[i])).bind fun y => if x.length + y.length < 140737488355328 then r06_Table.l0 k t (x ++ y) ((i + 1 : Nat) : Int) else none) (fun k => ?_) ?_
    · rw [r06_Table.l0, if_pos (by omega), if_pos (by omega), rdOf_at t i hi, strBytes_small _ hs]
      have hw : wrap64 ((i : Int) + 1) = ((i + 1 : Nat) : Int) := by unfold wrap64; omega
      rw [hw]
      rfl
    · refine Ev.bind (row (bytesOf t[i]) (by rw [bytesOf_length]; omega)) (Ev.pos (by omega) ?_)
      have h := table_loop t ht hl n (i + 1) (x ++ rowB (bytesOf t[i])) (by omega) (by rw [List.length_append]; omega)
      rw [List.append_assoc] at h
      have e : rowB (bytesOf t[i]) ++ rowsB (t.drop (i + 1)) = rowsB (t.drop i) := by
        rw [List.drop_eq_getElem_cons hi]
        rfl
      rw [e] at h
      exact h
theorem table (t : List ByteArray) (ht : ∀ s ∈ t, s.size ≤ 8) (hl : t.length ≤ 32) : Ev (fun k => r06_Table.f k t) (tabB t) := by
  unfold r06_Table.f
  rw [wrapu _ (by omega)]
  refine Ev.bind (bytes t.length (by omega)) ?_
  exact table_loop t ht hl t.length 0 (numB t.length) (by omega) (by have := (numB_length t.length).2 (by omega); omega)
end Law
end Go.Proofs.Ythaifibhflfpkaa.Q
end
section
namespace Go.Proofs.Ythaifibhflfpkaa.Q
open Go.RowKit Go.Proofs.YthaifibhflfpkaaW.PrintWords Go.Proofs.YthaifibhflfpkaaW.PrintLast Go.Proofs.YthaifibhflfpkaaW.PrintMore Go.Proofs.YthaifibhflfpkaaX
attribute [local go_sem] max2_int min2_int max_two min_two max_three min_three max_four min_four   -- for this text's walks alone
set_option linter.unusedVariables false
set_option linter.unusedSimpArgs false
def sym_Encode.code (t : List ByteArray) (y : List UInt8) : Option Int := ((t.map sym_Formed.key).findIdx? (· == y)).map (fun (i : Nat) => (i : Int))
def sym_Encode.hit (t : List ByteArray) (rs : ByteArray) : Nat → Option (Int × Nat)
 | 0 => none
 | 1 => none
 | n + 2 => match sym_Encode.code t (rs.extract 0 (n + 2)).data.toList with
  | some k => some (k, n + 2)
  | none => sym_Encode.hit t rs (n + 1)
def sym_Encode.enc (t : List ByteArray) : Nat → ByteArray → List Int
 | 0, _ => []
 | f + 1, rs => if rs.size = 0 then [] else match sym_Encode.hit t rs (min 8 rs.size) with
  | some (k, n) => (k % 256) :: sym_Encode.enc t f (rs.extract n rs.size)
  | none => 255 :: bt rs 0 :: sym_Encode.enc t f (rs.extract 1 rs.size)
def sym_Encode.f (l0 : List ByteArray) (l1 : List Int) : Option (List Int × Int) := (sym_Formed.f l0).bind fun t => if t = true then (if l1.length < 70000000000000 then some (sym_Encode.enc l0 l1.length (strOfNums l1), 0) else none) else some ([], 1)
theorem sym_Encode.code_next {t : List ByteArray} (ht : sym_Formed.ok t) (i : Nat) (s : ByteArray) (hs : t[i]? = some s) : upd (sym_Encode.code (t.take i)) (sym_Formed.key s) (i : Int) = sym_Encode.code (t.take (i + 1)) := by
 have hn := ((sym_Formed.ok_next t i s hs).1 (sym_Formed.ok_take ht (i + 1))).2.2
 have hi : i < t.length := (List.getElem?_eq_some_iff.1 hs).1
 have hl : (t.take i).length = i := by rw [List.length_take]; omega
 funext y
 unfold upd sym_Encode.code
 rw [List.take_add_one, hs]
 simp only [Option.toList_some, List.map_append, List.map_cons, List.map_nil, List.findIdx?_append, List.length_map, hl]
 by_cases h : y = sym_Formed.key s
 ·
  subst h
  rw [if_pos rfl]
  have h1 : (List.map sym_Formed.key (t.take i)).findIdx? (· == sym_Formed.key s) = none := by
   rw [List.findIdx?_eq_none_iff]
   intro x hx
   simp only [beq_eq_false_iff_ne, ne_eq]
   intro e
   exact hn (e ▸ hx)
  rw [h1]
  simp [List.findIdx?_cons]
 ·
  rw [if_neg h]
  have h2 : ([sym_Formed.key s] : List (List UInt8)).findIdx? (· == y) = none := by
   simp [List.findIdx?_cons]
   exact fun e => h e.symm
  rw [h2]
  simp
set_option maxHeartbeats 8000000 in
set_option maxRecDepth 100000 in
theorem sym_Encode.calls (A0 : Option Addr) (c0 : Nat) (l0 : List ByteArray) (A1 : Option Addr) (c1 : Nat) (l1 : List Int) (r1 : List Int) (r2 : Int) (w : World) (hr0 : Kd.C Kd.string w A0 l0.length l0) (hc0 : l0.length ≤ c0) (hr1 : Kd.C (Kd.int .u8) w A1 l1.length l1) (hc1 : l1.length ≤ c1) (h : sym_Encode.f l0 l1 = some (r1, r2)) :
  Calls Try.prog 20 #[.slice A0 l0.length c0, .slice A1 l1.length c1] w fun e w' => ∃ v0_ : Value, e = .returned (.tuple #[v0_, .int .i64 r2]) ∧ Kd.R (Kd.int .u8) 5 w' w.heap.size (fun _ => True) v0_ r1 ∧ Below w.heap.size w w' := by
 have HR0 := aM hr0
 have HC0 := aM hc0
 have HR1 := aM hr1
 have HC1 := aM hc1
 clear hr0 hc0 hr1 hc1
 have HB := aM (Below.refl w.heap.size w)
 have HT : Aside0 (Try.prog.underlying 65 = some (.map 9 3)) := ⟨by kernel_rfl⟩
 have HE : Aside0 (Try.prog.underlying 3 = some (.int .i64)) := ⟨by kernel_rfl⟩
 have HS : Aside0 (Try.prog.underlying 9 = some .string) := ⟨by kernel_rfl⟩
 have HZ : Aside0 (∀ w : World, (zeroValue 3).run Try.prog w = .ok (.int .i64 0) w) := ⟨fun w => by kernel_rfl⟩
 unfold sym_Encode.f at h
 rw [Option.bind_eq_some_iff] at h
 obtain ⟨t, ht, h⟩ := h
 have A3 := aM ht
 have hfo : sym_Formed.f l0 = some (decide (l0.length ≤ 32) && decide (sym_Formed.ok l0)) := rfl
 rw [hfo] at ht
 have HTT := aM (Option.some.inj ht)
 clear ht hfo
 cases t with
 | false =>
  rw [if_neg (by simp)] at h
  have HV := aM (Option.some.inj h)
  clear h
  go_enter Try.func20, Try.ntmps20
  go_wp2
  go_step3
  go_wp2_with (first | ((with_reducible refine gate_callee (f := 46) rfl ?_); refine goesL_ (some 15) rfl rfl Try.func46 (by kernel_rfl) rfl #[.slice A0 l0.length c0] rfl (by (try simp only [List.map_toArray, List.map_cons, List.map_nil]); first | done | rfl) ?_; (with_reducible refine (sym_Formed.calls _ _ l0 false _ ?side1 ?side2 A3.out).mono ?_); (case side1 => exact HR0.out); (case side2 => exact HC0.out); rintro e w1 ⟨rfl, hb⟩; refine ⟨_, rfl, ?_⟩; have HB1 := aM hb; clear hb))
  (try rw [Exit.noGoto_ret])
  go_ret2
  have hv := HV.out
  injection hv with hv1 hv2
  subst hv1
  subst hv2
  exact ⟨_, rfl, Kd.R_nil _ _ _ _ _, HB1.out⟩
 | true =>
  rw [if_pos rfl] at h
  split at h
  case isFalse => exact absurd h (by simp)
  case isTrue hlim =>
  have HLIM := aM hlim
  have HV := aM (Option.some.inj h)
  clear h hlim
  have HOK : Aside0 (l0.length ≤ 32 ∧ sym_Formed.ok l0) := ⟨by have := HTT.out; simpa using this⟩
  have hmm := @run_makeMap Try.prog
  go_enter Try.func20, Try.ntmps20
  go_wp2
  go_step3
  go_wp2_with (first | ((with_reducible refine gate_callee (f := 46) rfl ?_); refine goesL_ (some 15) rfl rfl Try.func46 (by kernel_rfl) rfl #[.slice A0 l0.length c0] rfl (by (try simp only [List.map_toArray, List.map_cons, List.map_nil]); first | done | rfl) ?_; (with_reducible refine (sym_Formed.calls _ _ l0 true _ ?side1 ?side2 A3.out).mono ?_); (case side1 => exact HR0.out); (case side2 => exact HC0.out); rintro e w1 ⟨rfl, hb⟩; refine ⟨_, rfl, ?_⟩; have HB1 := aM hb; clear hb))
  go_loopg [20] l0.length (fun kq v20 w' => ∃ (i : Int), v20 = .int .i64 i ∧ Aside0 (0 ≤ i ∧ (kq : Int) + i = l0.length) ∧ Aside0 (MapF Try.prog 9 3 Lit.string (Lit.int .i64) w' w1.heap.size i.toNat (sym_Encode.code (l0.take i.toNat))) ∧ Aside0 (Below w.heap.size w w'))
  case atStart => exact ⟨0, rfl, ⟨by omega, by omega⟩, ⟨MapF.made _ _ _ _ _ _⟩, ⟨below_alloc HB1.out _⟩⟩
  case round =>
   clear HB
   obtain ⟨i, rfl, HI, HM, HB⟩ := hrel
   cases gk with
   | succ k1 =>
    have c2b : decide (i < (l0.length : Int)) = true := decide_eq_true (by have := HI.out; omega)
    have p1 : 0 ≤ i := HI.out.1
    have q1 : i < (l0.length : Int) := by have := HI.out; omega
    obtain ⟨ad, rfl, hx⟩ := Kd.at_string (Kd.C_below HR0.out HB.out) i p1 q1
    have hg : l0[i.toNat]? = some (rdOf ByteArray.empty l0 i) := by
     unfold rdOf
     rw [List.getD_eq_getElem?_getD, List.getElem?_eq_getElem (by omega)]
     rfl
    obtain ⟨s, hs⟩ : ∃ s, s = rdOf ByteArray.empty l0 i := ⟨_, rfl⟩
    rw [← hs] at hx hg
    clear hs
    have HG := aM hg
    clear hg
    replace p1 := eq_true p1
    replace q1 := eq_true q1
    have HK : Aside0 (keyOf Try.prog 9 (.string s) = some (.string s.data.toList)) := ⟨Go.WideMaps.keyOf_string_mk HS.out (by have := (HOK.out.2.1 s (List.mem_of_getElem? HG.out)).2; unfold maxLen; omega)⟩
    go_wp2_with (first | (at_mapUpdate; refine map_store rfl _ _ _ 65 rfl (Maps.string_keyed HS.out) HT.out rfl HM.out (by have := HI.out; have := HOK.out.1; unfold maxLen; omega) (fun x y h => by injection h) _ _ (sym_Formed.key s) i rfl rfl HK.out (plainElem_int HE.out (WalkArith.wf_i64 (by have := HI.out; have := HOK.out.1; omega))) ?_; intro w2 hm1 hg1; have HM1 := aM hm1; have HB2 := aM (below_mapped HB.out hg1 (below_size HB1.out) (below_size HB.out)); clear hm1 hg1))
    go_roundg k1
    case measure => omega
    case rel =>
     have hi := HI.out
     have hl := HOK.out.1
     have hw : wrap64 (i + 1) = i + 1 := by unfold wrap64; omega
     have hn : (i + 1).toNat = i.toNat + 1 := by omega
     have hm2 := HM1.out
     have hcn := sym_Encode.code_next HOK.out.2 i.toNat s HG.out
     rw [Int.toNat_of_nonneg hi.1] at hcn
     rw [hcn, ← hn] at hm2
     exact ⟨i + 1, (by rw [hw]), ⟨by omega, by omega⟩, ⟨hm2⟩, ⟨HB2.out⟩⟩
   | zero =>
    have hi : i = l0.length := by have := HI.out; omega
    have c2b : decide (i < (l0.length : Int)) = false := decide_eq_false (by omega)
    have HM2 : Aside0 (MapF Try.prog 9 3 Lit.string (Lit.int .i64) wr w1.heap.size 32 (sym_Encode.code l0)) := ⟨by
     have h2 := HM.out
     rw [hi, Int.toNat_natCast, List.take_length] at h2
     exact h2.mono HOK.out.1⟩
    clear HM hi
    have hcv := Kd.C_string (P := Try.prog) (A := A1) (c := c1) Try.underlying22 Try.underlying5 Try.underlying9 (Kd.C_below HR1.out HB.out)
    go_wp2
    go_step3
    go_wp2
    go_loopg [9, 10] l1.length (fun kq v9 v10 w' => ∃ (out : List Int) (rs : ByteArray), v10 = .string rs ∧ Aside0 (rs.size ≤ kq ∧ out.length + 2 * rs.size ≤ 2 * l1.length) ∧ Aside0 (out ++ sym_Encode.enc l0 kq rs = r1) ∧ Aside0 (Kd.R (Kd.int .u8) 5 w' w.heap.size (fun _ => True) v9 out) ∧ Aside0 (MapF Try.prog 9 3 Lit.string (Lit.int .i64) w' w1.heap.size 32 (sym_Encode.code l0)) ∧ Aside0 (Below w.heap.size w w'))
    case atStart => exact ⟨[], _, rfl, ⟨by rw [strOfNums_size]; exact ⟨Nat.le_refl _, by simp⟩⟩, ⟨by have := congrArg Prod.fst HV.out; simpa using this⟩, ⟨Kd.R_nil _ _ _ _ _⟩, ⟨HM2.out⟩, ⟨HB.out⟩⟩
    case round =>
     clear HB HM2 hcv
     obtain ⟨out, rs, rfl, HSZ, HQ, HO, HM, HB⟩ := hrel
     by_cases hz : rs.size = 0
     ·
      have z1 : decide (0 < (rs.size : Int)) = false := decide_eq_false (by omega)
      have z2 : decide (0 < rs.size) = false := decide_eq_false (by omega)
      have HZ0 := aM hz
      clear hz
      go_wp2
      (try rw [Exit.noGoto_ret])
      go_ret2
      have hq := HQ.out
      have hv := HV.out
      injection hv with hv1 hv2
      subst hv2
      have : sym_Encode.enc l0 gk rs = [] := by
       cases gk with
       | zero => rfl
       | succ k1 => unfold sym_Encode.enc; rw [if_pos HZ0.out]
      rw [this, List.append_nil] at hq
      subst hq
      exact ⟨_, rfl, HO.out, HB.out⟩
     ·
      cases gk with
      | zero => exact absurd (Nat.le_zero.1 HSZ.out.1) hz
      | succ k1 =>
      have z1 : decide (0 < (rs.size : Int)) = true := decide_eq_true (by omega)
      have z2 : decide (0 < rs.size) = true := decide_eq_true (by omega)
      obtain ⟨mi, hmi⟩ : ∃ m : Int, (if (rs.size : Int) < 8 then (rs.size : Int) else 8) = m := ⟨_, rfl⟩
      have HMI : Aside0 (1 ≤ mi ∧ mi ≤ 8 ∧ mi ≤ rs.size ∧ mi.toNat = min 8 rs.size) := ⟨by rw [← hmi]; split <;> omega⟩
      have HNZ := aM hz
      clear hz
      go_wp2
      go_loopg [9, 10, 11] mi.toNat (fun kq v9 v10 v11 w' => v9 = u9 ∧ v10 = .string rs ∧ w' = wr ∧ ∃ n : Int, v11 = .int .i64 n ∧ Aside0 (1 ≤ n ∧ n ≤ mi ∧ (kq : Int) = n) ∧ Aside0 (sym_Encode.hit l0 rs mi.toNat = sym_Encode.hit l0 rs n.toNat))
      case atStart => exact ⟨rfl, rfl, rfl, mi, by first | rfl | simp, ⟨by have := HMI.out; omega⟩, ⟨rfl⟩⟩
      case round =>
       clear hmi
       obtain ⟨e9, e10, ew, n, rfl, HN, HH⟩ := hrel
       subst e9
       subst e10
       subst ew
       by_cases hn2 : 2 ≤ n
       ·
        have n1 : decide (2 ≤ n) = true := decide_eq_true hn2
        have s1 := eq_true (show 0 ≤ n by omega)
        have s2 : (n ≤ (rs.size : Int)) = True := eq_true (by have := HN.out; have := HMI.out; omega)
        have s3 : decide (n ≤ (rs.size : Int)) = true := decide_eq_true (by have := HN.out; have := HMI.out; omega)
        have s4 : decide (0 ≤ n) = true := decide_eq_true (by omega)
        have hes : (rs.extract 0 n.toNat).size = n.toNat := by
         have := HN.out
         have := HMI.out
         rw [ByteArray.size_extract]
         omega
        have HK : Aside0 (keyOf Try.prog 9 (.string (rs.extract 0 n.toNat)) = some (.string (rs.extract 0 n.toNat).data.toList)) := ⟨Go.WideMaps.keyOf_string_mk HS.out (by have := HN.out; have := HMI.out; rw [hes]; unfold maxLen; omega)⟩
        have HN2 := aM hn2
        clear hn2 hes
        cases hcd : sym_Encode.code l0 (rs.extract 0 n.toNat).data.toList with
        | none =>
         have HC := aM hcd
         clear hcd
         go_wp2_with (first | (at_lookup; refine map_look_ok rfl _ _ 65 rfl (Maps.string_keyed HS.out) HT.out HE.out (HZ.out _) rfl HM.out _ (rs.extract 0 n.toNat).data.toList rfl HK.out ?_; (rw [HC.out]; simp only [Option.getD_none, Option.isSome_none])))
         go_roundg (n - 1).toNat
         case measure => have := HN.out; have := HN2.out; omega
         case rel =>
          have hn := HN.out
          have hn2 := HN2.out
          have hm := HMI.out
          have hw : wrap64 (n - 1) = n - 1 := by unfold wrap64; omega
          refine ⟨rfl, rfl, rfl, n - 1, by rw [hw], ⟨by omega⟩, ⟨?_⟩⟩
          rw [HH.out]
          have he : n.toNat = ((n - 1).toNat - 1) + 2 := by omega
          have he2 : (n - 1).toNat = ((n - 1).toNat - 1) + 1 := by omega
          rw [he2, he, sym_Encode.hit]
          rw [← he, HC.out]
        | some kv =>
         have HC := aM hcd
         clear hcd
         have HHIT : Aside0 (sym_Encode.hit l0 rs (min 8 rs.size) = some (kv, n.toNat)) := ⟨by
          have hn := HN.out
          have hn2 := HN2.out
          rw [← HMI.out.2.2.2, HH.out]
          have he : n.toNat = (n.toNat - 2) + 2 := by omega
          rw [he, sym_Encode.hit, ← he, HC.out]⟩
         go_wp2_with (first | (at_lookup; refine map_look_ok rfl _ _ 65 rfl (Maps.string_keyed HS.out) HT.out HE.out (HZ.out _) rfl HM.out _ (rs.extract 0 n.toNat).data.toList rfl HK.out ?_; (rw [HC.out]; simp only [Option.getD_some, Option.isSome_some])))
         have HO1 := aM (Kd.R_drew HO.out)
         have HM1 := aM HM.out.drew
         have HB1' := aM (below_drew1 HB.out)
         refine start_ (n := 10) (S := fun w' => True) (ds := []) b33_ (by kernel_rfl) rfl rfl trivial (fun hHeld => ?_)
         generalize wr.drew = w24 at HO1 HM1 HB1' hHeld ⊢
         refine pure_ (i := 0) (N := some 50) (v := ?_) (a' := ?_) b35_ rfl rfl (by kernel_rfl) (fun _ _ _ h => h) (Or.inl ⟨by rfl, ?_⟩) ?_ ?_; rotate_left; (· intro w'; go_simp; with_reducible rfl); rotate_left; (· simp only [xQ, i64_w, i32_w]; rfl)
         refine pure_ (i := 1) (N := some 51) (v := ?_) (a' := ?_) b37_ rfl rfl (by kernel_rfl) (fun _ _ _ h => h) (Or.inl ⟨by rfl, ?_⟩) ?_ ?_; rotate_left; (· intro w'; go_simp; with_reducible rfl); rotate_left; (· simp only [xQ, i64_w, i32_w]; rfl)
         refine pure_ (i := 2) (N := some 52) (v := ?_) (a' := ?_) b40_ rfl rfl (by kernel_rfl) (fun _ _ _ h => h) (Or.inl ⟨by rfl, ?_⟩) ?_ ?_; rotate_left; (· intro w'; go_simp; with_reducible rfl); rotate_left; (· simp only [xQ, i64_w, i32_w]; rfl)
         refine pure_ (i := 5) (N := some 55) (v := ?_) (a' := ?_) b41_ rfl rfl (by kernel_rfl) (fun _ _ _ h => h) (Or.inl ⟨by rfl, ?_⟩) ?_ ?_; rotate_left; (· intro w'; go_simp; with_reducible rfl); rotate_left; (· simp only [xQ, i64_w, i32_w]; rfl)
         refine pure_ (i := 6) (N := some 56) (v := ?_) (a' := ?_) b43_ rfl rfl (by kernel_rfl) (fun _ _ _ h => h) (Or.inl ⟨by rfl, ?_⟩) ?_ ?_; rotate_left; (· intro w'; go_simp; with_reducible rfl); rotate_left; (· simp only [xQ, i64_w, i32_w]; rfl)
         refine pure_ (i := 7) (N := some 57) (v := ?_) (a' := ?_) b44_ rfl rfl (by kernel_rfl) (fun _ _ _ h => h) (Or.inl ⟨by rfl, ?_⟩) ?_ ?_; rotate_left; (· intro w'; go_simp; with_reducible rfl); rotate_left; (· simp only [xQ, i64_w, i32_w]; rfl)
         refine one_ (i := 3) (N := some 53) b46_ rfl rfl (by kernel_rfl) (by decide) (fun K hK => ?_)
         refine value_ (w1 := ?_) (v := ?_) (by rfl) rfl ?_ ?_
         rotate_left 2
         ·
          go_simp
          constructor
          · rfl
          · rfl
         refine hK.out _ _ trivial (fun hHeld => ?_)
         clear hK K
         refine norm_ (a' := ?_) ?_ ?_
         rotate_left
         ·
          show Act.put _ (some 53) _ = _
          simp only [xQ, i64_w, i32_w]
          rfl
         refine one_ (i := 4) (N := some 54) b49_ rfl rfl (by kernel_rfl) (by decide) (fun K hK => ?_)
         refine Kd.R_append_step (Kd.int .u8) (w0 := w) w.heap.size (by rfl) (.tmp 50) (.tmp 53) 22 5 (.int .u8 0) 1 rfl Try.underlying22 info5 rfl (by decide) (by omega) u9 out (kv % 256) [.int .u8 (kv % 256)] (fun _ => True) (fun _ => False) rfl rfl ?aP (fun _ hk => hk.elim) ?aF ?aO ?aB ?aS ?aL ?_
         (case aP => exact rfl)
         (case aF => exact (fun _ _ => trivial))
         (case aO => exact HO1.out)
         (case aB => exact HB1'.out)
         (case aS => exact below_size HB1'.out)
         (case aL => have := HSZ.out; have := HLIM.out; omega)
         intro v54 w54 ho hb hg hat
         have HO2 := aM ho
         have HB2 := aM hb
         have HM2 := aM (HM1.out.kept hg (HM1.out.ne_row HO1.out))
         clear ho hb hg hat
         refine hK.out _ _ trivial (fun hHeld => ?_)
         clear hK K
         refine norm_ (a' := ?_) ?_ ?_
         rotate_left
         ·
          show Act.put _ (some 54) _ = _
          simp only [xQ, i64_w, i32_w]
          rfl
         refine pure_ (i := 8) (N := some 9) (v := ?_) (a' := ?_) b51_ rfl rfl (by kernel_rfl) (fun _ _ _ h => h) (Or.inl ⟨by rfl, ?_⟩) ?_ ?_; rotate_left; (· intro w'; go_simp; with_reducible rfl); rotate_left; (· simp only [xQ, i64_w, i32_w]; rfl)
         refine pure_ (i := 9) (N := some 10) (v := ?_) (a' := ?_) b52_ rfl rfl (by kernel_rfl) (fun _ _ _ h => h) (Or.inl ⟨by rfl, ?_⟩) ?_ ?_; rotate_left; (· intro w'; go_simp; with_reducible rfl); rotate_left; (· simp only [xQ, i64_w, i32_w]; rfl)
         refine done_ (by kernel_rfl) ?_
         go_wp2
         go_roundg k1
         case measure => omega
         case rel =>
          have hn := HN.out
          have hn2 := HN2.out
          have hm := HMI.out
          have hs := HSZ.out
          have hse : (rs.extract n.toNat rs.size).size = rs.size - n.toNat := by rw [ByteArray.size_extract]; omega
          refine ⟨out ++ [kv % 256], rs.extract n.toNat rs.size, rfl, ⟨?_⟩, ⟨?_⟩, ⟨HO2.out⟩, ⟨HM2.out⟩, ⟨HB2.out⟩⟩
          ·
           rw [hse, List.length_append]
           simp only [List.length_singleton]
           omega
          ·
           have hq := HQ.out
           rw [sym_Encode.enc, if_neg HNZ.out, HHIT.out] at hq
           simpa using hq
       ·
        have n1 : decide (2 ≤ n) = false := decide_eq_false hn2
        have HHIT : Aside0 (sym_Encode.hit l0 rs (min 8 rs.size) = none) := ⟨by
         have hn := HN.out
         have he : n.toNat = 1 := by omega
         rw [← HMI.out.2.2.2, HH.out, he]
         rfl⟩
        clear hn2
        have HO1 := aM (Kd.R_drew HO.out)
        have HM1 := aM HM.out.drew
        have HB1' := aM (below_drew1 HB.out)
        have q60 : 0 < rs.size := by have := HNZ.out; omega
        have hx60 : ∀ h : 0 < rs.size, ((rs[0]'h).toNat : Int) = bt rs 0 := bt_at rs 0
        have qi60 : (0 < (rs.size : Int)) = True := eq_true (by omega)
        have qj60 : (1 ≤ (rs.size : Int)) = True := eq_true (by omega)
        have qk60 : decide (1 ≤ (rs.size : Int)) = true := decide_eq_true (by omega)
        replace q60 := eq_true q60
        go_wp2
        refine start_ (n := 9) (S := fun w' => True) (ds := []) b32_ (by kernel_rfl) rfl rfl trivial (fun hHeld => ?_)
        generalize wr.drew = w24 at HO1 HM1 HB1' hHeld ⊢
        refine pure_ (i := 0) (N := some 58) (v := ?_) (a' := ?_) b34_ rfl rfl (by kernel_rfl) (fun _ _ _ h => h) (Or.inl ⟨by rfl, ?_⟩) ?_ ?_; rotate_left; (· intro w'; go_simp; with_reducible rfl); rotate_left; (· simp only [xQ, i64_w, i32_w]; rfl)
        refine pure_ (i := 1) (N := some 59) (v := ?_) (a' := ?_) b36_ rfl rfl (by kernel_rfl) (fun _ _ _ h => h) (Or.inl ⟨by rfl, ?_⟩) ?_ ?_; rotate_left; (· intro w'; go_simp; with_reducible rfl); rotate_left; (· simp only [xQ, i64_w, i32_w]; rfl)
        refine pure_ (i := 5) (N := some 63) (v := ?_) (a' := ?_) b38_ rfl rfl (by kernel_rfl) (fun _ _ _ h => h) (Or.inl ⟨by rfl, ?_⟩) ?_ ?_; rotate_left; (· intro w'; go_simp; with_reducible rfl); rotate_left; (· simp only [xQ, i64_w, i32_w]; rfl)
        refine pure_ (i := 6) (N := some 64) (v := ?_) (a' := ?_) b39_ rfl rfl (by kernel_rfl) (fun _ _ _ h => h) (Or.inl ⟨by rfl, ?_⟩) ?_ ?_; rotate_left; (· intro w'; go_simp; with_reducible rfl); rotate_left; (· simp only [xQ, i64_w, i32_w]; rfl)
        refine take_ (i := 2) (N := some 60) (v := ?_) (a' := ?_) b42_ rfl rfl (by kernel_rfl) (fun _ _ _ h => h) (Or.inl ⟨by rfl, ?_⟩) hHeld ?_ ?_
        rotate_left
        ·
         intro w' _
         go_simp
         with_reducible rfl
        rotate_left
        ·
         simp only [xQ, i64_w, i32_w]
         rfl
        refine one_ (i := 3) (N := some 61) b45_ rfl rfl (by kernel_rfl) (by decide) (fun K hK => ?_)
        refine Kd.R_lit_step (Kd.int .u8) _ 5 ?hg (N := 61) ?hd (xs := ([255, bt rs 0] : List Int)) (inner := [.int .u8 255, .int .u8 (bt rs 0)]) (ok := fun _ => True) (okp := fun _ => True) ?hr ?hp (fun _ hk => hk) trivial (Below.refl _ _) (Nat.le_refl _) (by simp) ?_
        (case hd => rfl)
        (case hg => rfl)
        (case hr => first | (go_simp; done) | (go_simp; rfl))
        (case hp => exact (Reps.one (show Kd.M (Kd.int .u8) _ _ _ 255 [.int .u8 255] from rfl) (Reps.one (show Kd.M (Kd.int .u8) _ _ _ (bt rs 0) [.int .u8 (bt rs 0)] from rfl) (Reps.none _ _))))
        intro v61 w61 ho61 hb61 hg_ hnew_
        have HO2 := aM (Kd.R_below HO1.out hb61)
        have HM2 := aM (HM1.out.below hb61)
        have HB2 := aM (below_step HB1'.out hb61)
        have HL61 := aM ho61
        clear ho61 hb61 hg_ hnew_
        obtain ⟨A61, c61, e61⟩ := Kd.R_slice HL61.out
        subst e61
        refine hK.out _ _ trivial (fun hHeld => ?_)
        clear hK K
        refine norm_ (a' := ?_) ?_ ?_
        rotate_left
        ·
         show Act.put _ (some 61) _ = _
         simp only [xQ, i64_w, i32_w]
         rfl
        refine one_ (i := 4) (N := some 62) b47_ rfl rfl (by kernel_rfl) (by decide) (fun K hK => ?_)
        refine Kd.R_append_rows_step (Kd.int .u8) (w0 := w) w.heap.size (by rfl) (.tmp 58) (.tmp 61) 22 5 (.int .u8 0) 1 rfl Try.underlying22 info5 rfl (by decide) (by omega) u9 out [255, bt rs 0] _ _ _ (fun _ => True) (fun _ => False) rfl rfl ?aO ?aR (fun _ _ h => h) (fun _ h => h.elim) ?aF ?aB ?aS ?aL ?_
        (case aR => exact (Kd.R_reads' HL61.out).2.2)
        (case aB => exact HB2.out)
        (case aF => exact (fun _ _ => trivial))
        (case aO => exact HO2.out)
        (case aS => exact below_size HB2.out)
        (case aL => have := HSZ.out; have := HLIM.out; simp only [List.length_cons, List.length_nil]; omega)
        intro v62 w62 ho hb hg hat
        have HO3 := aM ho
        have HB3 := aM hb
        have HM3 := aM (HM2.out.kept hg (HM2.out.ne_row HO2.out))
        clear ho hb hg hat
        refine hK.out _ _ trivial (fun hHeld => ?_)
        clear hK K
        refine norm_ (a' := ?_) ?_ ?_
        rotate_left
        ·
         show Act.put _ (some 62) _ = _
         simp only [xQ, i64_w, i32_w]
         rfl
        refine pure_ (i := 7) (N := some 9) (v := ?_) (a' := ?_) b48_ rfl rfl (by kernel_rfl) (fun _ _ _ h => h) (Or.inl ⟨by rfl, ?_⟩) ?_ ?_; rotate_left; (· intro w'; go_simp; with_reducible rfl); rotate_left; (· simp only [xQ, i64_w, i32_w]; rfl)
        refine pure_ (i := 8) (N := some 10) (v := ?_) (a' := ?_) b50_ rfl rfl (by kernel_rfl) (fun _ _ _ h => h) (Or.inl ⟨by rfl, ?_⟩) ?_ ?_; rotate_left; (· intro w'; go_simp; with_reducible rfl); rotate_left; (· simp only [xQ, i64_w, i32_w]; rfl)
        refine done_ (by kernel_rfl) ?_
        go_wp2
        go_roundg k1
        case measure => omega
        case rel =>
         have hs := HSZ.out
         have hz0 := HNZ.out
         have hse : (rs.extract 1 rs.size).size = rs.size - 1 := by rw [ByteArray.size_extract]; omega
         refine ⟨out ++ [255, bt rs 0], rs.extract 1 rs.size, rfl, ⟨?_⟩, ⟨?_⟩, ⟨HO3.out⟩, ⟨HM3.out⟩, ⟨HB3.out⟩⟩
         ·
          rw [hse, List.length_append]
          simp only [List.length_cons, List.length_nil]
          omega
         ·
          have hq := HQ.out
          rw [sym_Encode.enc, if_neg HNZ.out, HHIT.out] at hq
          simpa using hq
mutual
def r06_Formed.l0 : Nat → List ByteArray → Int → Option (Bool)
 | 0, _, _ => none
 | k + 1, x0, x3 => if x3 < (x0.length : Int) then (if 0 ≤ x3 then (if ((rdOf ByteArray.empty x0 x3).size : Int) < 2 then (r06_Formed.j1 k x0 x3 true) else (r06_Formed.j1 k x0 x3 (decide (((rdOf ByteArray.empty x0 x3).size : Int) > 8)))) else (none)) else (some true)
def r06_Formed.j1 : Nat → List ByteArray → Int → Bool → Option (Bool)
 | 0, _, _, _ => none
 | k + 1, x0, x3, x27 => if x27 = true then (some false) else (r06_Formed.l1 k x0 x3 0)
def r06_Formed.l1 : Nat → List ByteArray → Int → Int → Option (Bool)
 | 0, _, _, _ => none
 | k + 1, x0, x3, x4 => if x4 < x3 then (if 0 ≤ x3 then (if x3 < (x0.length : Int) then (if 0 ≤ x4 then (if x4 < (x0.length : Int) then (if (rdOf ByteArray.empty x0 x3).toList = (rdOf ByteArray.empty x0 x4).toList then (some false) else (r06_Formed.l1 k x0 x3 (wrap64 (x4 + 1)))) else (none)) else (none)) else (none)) else (none)) else (r06_Formed.l0 k x0 (wrap64 (x3 + 1)))
end
def r06_Formed.f (k : Nat) (l0 : List ByteArray) : Option (Bool) := if (l0.length : Int) > 32 then (some false) else (r06_Formed.l0 k l0 0)
set_option maxHeartbeats 8000000 in
set_option maxRecDepth 100000 in
theorem r06_Formed.calls (k : Nat) (A0 : Option Addr) (c0 : Nat) (l0 : List ByteArray) (r : Bool) (w : World) (hr0 : Kd.C Kd.string w A0 l0.length l0) (hc0 : l0.length ≤ c0) (h : r06_Formed.f k l0 = some r) :
  Calls Try.prog 54 #[.slice A0 l0.length c0] w fun e w' => e = .returned (.bool r) ∧ Drawn0 w w' := by
 have HR0 := aM hr0
 have HC0 := aM hc0
 clear hr0 hc0
 have H : (if (l0.length : Int) > 32 then (some false) else (r06_Formed.l0 k l0 0)) = some r := h
 clear h
 by_cases c2 : (l0.length : Int) > 32
 ·
  rw [if_pos c2] at H
  have c2b0 : decide (32 < (l0.length : Int)) = true := decide_eq_true c2
  have c2b1 : decide (32 < l0.length) = true := decide_eq_true (by omega)
  clear c2
  obtain rfl := Option.some.inj H
  go_enter Try.func54, Try.ntmps54
  go_wp2
  repeat (go_quiet (fail); try go_wp2)
  go_ret
  exact ⟨by first | rfl | (simp; done) | (simp [*]; done), by repeat (first | exact Drawn0.refl _ | apply Drawn0.step)⟩
 ·
  rw [if_neg c2] at H
  have c2b0 : decide (32 < (l0.length : Int)) = false := decide_eq_false c2
  have c2b1 : decide (32 < l0.length) = false := decide_eq_false (by omega)
  clear c2
  have H' := aM H
  clear H
  go_enter Try.func54, Try.ntmps54
  go_wp2
  repeat (go_quiet (fail); try go_wp2)
  go_loopg [3] k (fun kq v3 w' => ∃ (x3_1 : Int), v3 = .int .i64 x3_1 ∧ Aside0 (r06_Formed.l0 kq l0 x3_1 = some r) ∧ Aside0 (kq ≤ k) ∧ Drawn0 w w')
  case atStart => exact ⟨(0), (by first | rfl | (simp; done) | (simp [*]; done)), H', ⟨Nat.le_refl _⟩, by repeat (first | exact Drawn0.refl _ | apply Drawn0.step)⟩
  case round =>
   clear H'
   try clear c2
   try clear c2b0
   try clear c2b1
   try clear p2
   obtain ⟨x3_1, rfl, HA, HK1, ⟨m1, rfl⟩⟩ := hrel
   cases gk with
   | zero => exact absurd HA.out (by simp [r06_Formed.l0])
   | succ k1 =>
    have H := HA.out
    clear HA
    simp only [r06_Formed.l0] at H
    by_cases c3 : x3_1 < (l0.length : Int)
    ·
     rw [if_pos c3] at H
     have c3b0 : decide (x3_1 < (l0.length : Int)) = true := decide_eq_true c3
     clear c3
     have HC4 := aM H
     clear H
     go_upto_region 6 with (fail)
     repeat (go_quiet (fail); go_upto_region 6 with (fail))
     go_cut [27] (fun v27 wc => ∃ (kq : Nat) (x27_3 : Bool), v27 = .bool x27_3 ∧ Aside0 (r06_Formed.j1 kq l0 x3_1 x27_3 = some r) ∧ Aside0 (kq ≤ k1) ∧ Drawn0 w wc)
     case first =>
      have H := HC4.out
      clear HC4
      by_cases c5 : 0 ≤ x3_1
      ·
       rw [if_pos c5] at H
       have c5b0 : decide (0 ≤ x3_1) = true := decide_eq_true c5
       clear c5
       (first | rw [c5b0] | (simp only [i64_w, i32_w]; rw [c5b0]) | skip)
       by_cases c6 : ((rdOf ByteArray.empty l0 x3_1).size : Int) < 2
       ·
        rw [if_pos c6] at H
        have c6b0 : decide (((rdOf ByteArray.empty l0 x3_1).size : Int) < 2) = true := decide_eq_true c6
        have c6b1 : decide ((rdOf ByteArray.empty l0 x3_1).size < 2) = true := decide_eq_true (by omega)
        clear c6
        have H' := aM H
        clear H
        have p400 : 0 ≤ (x3_1 : Int) := of_decide_eq_true (by first | (with_reducible assumption) | assumption)
        have q400 : x3_1 < (l0.length : Int) := of_decide_eq_true (by first | (with_reducible assumption) | assumption)
        obtain ⟨ad400, e400, hx400_0⟩ := Kd.at_string HR0.out x3_1 p400 q400
        cases e400
        replace p400 := eq_true p400
        replace q400 := eq_true q400
        go_wp2
        repeat (go_quiet (fail); try go_wp2)
        go_meet
        case rel => exact ⟨_, (true), (by first | rfl | (simp; done) | (simp [*]; done)), H', ⟨by have := HK1.out; first | omega | exact Nat.le_refl _⟩, by repeat (first | exact Drawn0.refl _ | apply Drawn0.step)⟩
       ·
        rw [if_neg c6] at H
        have c6b0 : decide (((rdOf ByteArray.empty l0 x3_1).size : Int) < 2) = false := decide_eq_false c6
        have c6b1 : decide ((rdOf ByteArray.empty l0 x3_1).size < 2) = false := decide_eq_false (by omega)
        clear c6
        have H' := aM H
        clear H
        have p400 : 0 ≤ (x3_1 : Int) := of_decide_eq_true (by first | (with_reducible assumption) | assumption)
        have q400 : x3_1 < (l0.length : Int) := of_decide_eq_true (by first | (with_reducible assumption) | assumption)
        obtain ⟨ad400, e400, hx400_0⟩ := Kd.at_string HR0.out x3_1 p400 q400
        cases e400
        replace p400 := eq_true p400
        replace q400 := eq_true q400
        have p401 : 0 ≤ (x3_1 : Int) := of_decide_eq_true (by first | (with_reducible assumption) | assumption)
        have q401 : x3_1 < (l0.length : Int) := of_decide_eq_true (by first | (with_reducible assumption) | assumption)
        obtain ⟨ad401, e401, hx401_0⟩ := Kd.at_string HR0.out x3_1 p401 q401
        obtain rfl : ad400 = ad401 := (by injection e401)
        replace p401 := eq_true p401
        replace q401 := eq_true q401
        go_wp2
        repeat (go_quiet (fail); try go_wp2)
        go_meet
        case rel => exact ⟨_, (decide (((rdOf ByteArray.empty l0 x3_1).size : Int) > 8)), (by first | rfl | (simp; done) | (simp [*]; done)), H', ⟨by have := HK1.out; first | omega | exact Nat.le_refl _⟩, by repeat (first | exact Drawn0.refl _ | apply Drawn0.step)⟩
      ·
       rw [if_neg c5] at H
       exact absurd H (by simp)
     case rest =>
      clear HC4
      try clear c2
      try clear c2b0
      try clear c2b1
      try clear p2
      try clear c3
      try clear c3b0
      try clear p4
      try clear q4
      try clear hx4
      try clear c5
      try clear c5b0
      try clear c6
      try clear c6b0
      try clear c6b1
      try clear hx400_0
      try clear hx401_0
      try clear p2
      try clear p400
      try clear p401
      try clear q400
      try clear q401
      obtain ⟨kq, x27_3, rfl, HA, HJ3, ⟨mc3, rfl⟩⟩ := hcut
      cases kq with
      | zero => exact absurd HA.out (by simp [r06_Formed.j1])
      | succ kj3 =>
       have H := HA.out
       clear HA
       simp only [r06_Formed.j1] at H
       by_cases c7 : x27_3 = true
       ·
        subst c7
        have H1 : (some false) = some r := by rw [if_pos rfl] at H; exact H
        clear H
        have H := H1
        clear H1
        obtain rfl := Option.some.inj H
        go_wp2
        repeat (go_quiet (fail); try go_wp2)
        go_ret
        exact ⟨by first | rfl | (simp; done) | (simp [*]; done), by repeat (first | exact Drawn0.refl _ | apply Drawn0.step)⟩
       ·
        replace c7 := Bool.eq_false_iff.mpr c7
        subst c7
        have H1 : (r06_Formed.l1 kj3 l0 x3_1 0) = some r := by rw [if_neg (show ¬ (false = true) by decide)] at H; exact H
        clear H
        have H := H1
        clear H1
        have H' := aM H
        clear H
        go_wp2
        repeat (go_quiet (fail); try go_wp2)
        go_loopg [4] kj3 (fun kq v4 w' => ∃ (x4_3 : Int), v4 = .int .i64 x4_3 ∧ Aside0 (r06_Formed.l1 kq l0 x3_1 x4_3 = some r) ∧ Aside0 (kq ≤ kj3) ∧ Drawn0 w w')
        case atStart => exact ⟨(0), (by first | rfl | (simp; done) | (simp [*]; done)), H', ⟨Nat.le_refl _⟩, by repeat (first | exact Drawn0.refl _ | apply Drawn0.step)⟩
        case round =>
         clear H'
         try clear c2
         try clear c2b0
         try clear c2b1
         try clear p2
         try clear c3
         try clear c3b0
         try clear p4
         try clear q4
         try clear hx4
         try clear c5
         try clear c5b0
         try clear c6
         try clear c6b0
         try clear c6b1
         try clear c7
         try clear hx400_0
         try clear hx401_0
         try clear p2
         try clear p4
         try clear p400
         try clear p401
         try clear q4
         try clear q400
         try clear q401
         obtain ⟨x4_3, rfl, HA, HK3, ⟨m3, rfl⟩⟩ := hrel
         cases gk with
         | zero => exact absurd HA.out (by simp [r06_Formed.l1])
         | succ k3 =>
          have H := HA.out
          clear HA
          simp only [r06_Formed.l1] at H
          by_cases c8 : x4_3 < x3_1
          ·
           rw [if_pos c8] at H
           have c8b0 : decide (x4_3 < x3_1) = true := decide_eq_true c8
           clear c8
           by_cases c9 : 0 ≤ x3_1
           ·
            rw [if_pos c9] at H
            have c9b0 : decide (0 ≤ x3_1) = true := decide_eq_true c9
            clear c9
            by_cases c10 : x3_1 < (l0.length : Int)
            ·
             rw [if_pos c10] at H
             have c10b0 : decide (x3_1 < (l0.length : Int)) = true := decide_eq_true c10
             clear c10
             by_cases c11 : 0 ≤ x4_3
             ·
              rw [if_pos c11] at H
              have c11b0 : decide (0 ≤ x4_3) = true := decide_eq_true c11
              clear c11
              by_cases c12 : x4_3 < (l0.length : Int)
              ·
               rw [if_pos c12] at H
               have c12b0 : decide (x4_3 < (l0.length : Int)) = true := decide_eq_true c12
               clear c12
               by_cases c13 : (rdOf ByteArray.empty l0 x3_1).toList = (rdOf ByteArray.empty l0 x4_3).toList
               ·
                rw [if_pos c13] at H
                have c13b0 : ((rdOf ByteArray.empty l0 x3_1).toList == (rdOf ByteArray.empty l0 x4_3).toList) = true := beq_iff_eq.mpr c13
                have c13b1 : ((rdOf ByteArray.empty l0 x3_1).toList != (rdOf ByteArray.empty l0 x4_3).toList) = false := bne_eq_false_iff_eq.mpr c13
                clear c13
                obtain rfl := Option.some.inj H
                have p402 : 0 ≤ (x3_1 : Int) := of_decide_eq_true (by first | (with_reducible assumption) | assumption)
                have q402 : x3_1 < (l0.length : Int) := of_decide_eq_true (by first | (with_reducible assumption) | assumption)
                obtain ⟨ad402, e402, hx402_0⟩ := Kd.at_string HR0.out x3_1 p402 q402
                cases e402
                replace p402 := eq_true p402
                replace q402 := eq_true q402
                have p403 : 0 ≤ (x4_3 : Int) := of_decide_eq_true (by first | (with_reducible assumption) | assumption)
                have q403 : x4_3 < (l0.length : Int) := of_decide_eq_true (by first | (with_reducible assumption) | assumption)
                obtain ⟨ad403, e403, hx403_0⟩ := Kd.at_string HR0.out x4_3 p403 q403
                obtain rfl : ad402 = ad403 := (by injection e403)
                replace p403 := eq_true p403
                replace q403 := eq_true q403
                go_wp2
                repeat (go_quiet (fail); try go_wp2)
                go_ret
                exact ⟨by first | rfl | (simp; done) | (simp [*]; done), by repeat (first | exact Drawn0.refl _ | apply Drawn0.step)⟩
               ·
                rw [if_neg c13] at H
                have c13b0 : ((rdOf ByteArray.empty l0 x3_1).toList == (rdOf ByteArray.empty l0 x4_3).toList) = false := beq_eq_false_iff_ne.mpr c13
                have c13b1 : ((rdOf ByteArray.empty l0 x3_1).toList != (rdOf ByteArray.empty l0 x4_3).toList) = true := bne_iff_ne.mpr c13
                have H' := aM H
                clear H
                have p402 : 0 ≤ (x3_1 : Int) := of_decide_eq_true (by first | (with_reducible assumption) | assumption)
                have q402 : x3_1 < (l0.length : Int) := of_decide_eq_true (by first | (with_reducible assumption) | assumption)
                obtain ⟨ad402, e402, hx402_0⟩ := Kd.at_string HR0.out x3_1 p402 q402
                cases e402
                replace p402 := eq_true p402
                replace q402 := eq_true q402
                have p403 : 0 ≤ (x4_3 : Int) := of_decide_eq_true (by first | (with_reducible assumption) | assumption)
                have q403 : x4_3 < (l0.length : Int) := of_decide_eq_true (by first | (with_reducible assumption) | assumption)
                obtain ⟨ad403, e403, hx403_0⟩ := Kd.at_string HR0.out x4_3 p403 q403
                obtain rfl : ad402 = ad403 := (by injection e403)
                replace p403 := eq_true p403
                replace q403 := eq_true q403
                go_wp2
                repeat (go_quiet (fail); try go_wp2)
                go_roundg k3
                case measure => have := HK1.out; have := HJ3.out; have := HK3.out; omega
                case rel => exact ⟨(wrap64 (x4_3 + 1)), (by first | rfl | (simp; done) | (simp [*]; done)), H', ⟨by have := HK1.out; have := HJ3.out; have := HK3.out; omega⟩, by repeat (first | exact Drawn0.refl _ | apply Drawn0.step)⟩
              ·
               rw [if_neg c12] at H
               exact absurd H (by simp)
             ·
              rw [if_neg c11] at H
              exact absurd H (by simp)
            ·
             rw [if_neg c10] at H
             exact absurd H (by simp)
           ·
            rw [if_neg c9] at H
            exact absurd H (by simp)
          ·
           rw [if_neg c8] at H
           have c8b0 : decide (x4_3 < x3_1) = false := decide_eq_false c8
           clear c8
           have H' := aM H
           clear H
           go_wp2
           repeat (go_quiet (fail); try go_wp2)
           go_roundg k3
           case measure => have := HK1.out; have := HJ3.out; have := HK3.out; omega
           case rel => exact ⟨(wrap64 (x3_1 + 1)), (by first | rfl | (simp; done) | (simp [*]; done)), H', ⟨by have := HK1.out; have := HJ3.out; have := HK3.out; omega⟩, by repeat (first | exact Drawn0.refl _ | apply Drawn0.step)⟩
    ·
     rw [if_neg c3] at H
     have c3b0 : decide (x3_1 < (l0.length : Int)) = false := decide_eq_false c3
     clear c3
     obtain rfl := Option.some.inj H
     go_wp2
     repeat (go_quiet (fail); try go_wp2)
     go_ret
     exact ⟨by first | rfl | (simp; done) | (simp [*]; done), by repeat (first | exact Drawn0.refl _ | apply Drawn0.step)⟩
def r06_longest.l0 : Nat → List ByteArray → List Int → Int → Int → Option (Int)
 | 0, _, _, _, _ => none
 | k + 1, x0, x1, x5, x6 => if x6 < (x0.length : Int) then (if 0 ≤ x6 then (if ((rdOf ByteArray.empty x0 x6).size : Int) ≤ (x1.length : Int) then (if 0 ≤ ((rdOf ByteArray.empty x0 x6).size : Int) then (if (strOfNums (x1.take (((rdOf ByteArray.empty x0 x6).size : Int) : Int).toNat)).toList = (rdOf ByteArray.empty x0 x6).toList then (if x5 < 0 then (r06_longest.l0 k x0 x1 x6 (wrap64 (x6 + 1))) else (if 0 ≤ x5 then (if x5 < (x0.length : Int) then (if ((rdOf ByteArray.empty x0 x6).size : Int) > ((rdOf ByteArray.empty x0 x5).size : Int) then (r06_longest.l0 k x0 x1 x6 (wrap64 (x6 + 1))) else (r06_longest.l0 k x0 x1 x5 (wrap64 (x6 + 1)))) else (none)) else (none))) else (r06_longest.l0 k x0 x1 x5 (wrap64 (x6 + 1)))) else (none)) else (r06_longest.l0 k x0 x1 x5 (wrap64 (x6 + 1)))) else (none)) else (some x5)
def r06_longest.f (k : Nat) (l0 : List ByteArray) (l1 : List Int) : Option (Int) := r06_longest.l0 k l0 l1 (-1) 0
set_option maxHeartbeats 8000000 in
set_option maxRecDepth 100000 in
theorem r06_longest.calls (k : Nat) (A0 : Option Addr) (c0 : Nat) (l0 : List ByteArray) (A1 : Option Addr) (c1 : Nat) (l1 : List Int) (r : Int) (w : World) (hr0 : Kd.C Kd.string w A0 l0.length l0) (hc0 : l0.length ≤ c0) (hr1 : Kd.C (Kd.int .u8) w A1 l1.length l1) (hc1 : l1.length ≤ c1) (h : r06_longest.f k l0 l1 = some r) :
  Calls Try.prog 55 #[.slice A0 l0.length c0, .slice A1 l1.length c1] w fun e w' => e = .returned (.int .i64 r) ∧ Drawn0 w w' := by
 have HR0 := aM hr0
 have HC0 := aM hc0
 clear hr0 hc0
 have HR1 := aM hr1
 have HC1 := aM hc1
 clear hr1 hc1
 have H : (r06_longest.l0 k l0 l1 (-1) 0) = some r := h
 clear h
 have H' := aM H
 clear H
 go_enter Try.func55, Try.ntmps55
 go_wp2
 repeat (go_quiet (fail); try go_wp2)
 go_loopg [5, 6] k (fun kq v5 v6 w' => ∃ (x5_1 : Int) (x6_1 : Int), v5 = .int .i64 x5_1 ∧ v6 = .int .i64 x6_1 ∧ Aside0 (r06_longest.l0 kq l0 l1 x5_1 x6_1 = some r) ∧ Aside0 (kq ≤ k) ∧ Drawn0 w w')
 case atStart => exact ⟨((-1)), (0), (by first | rfl | (simp; done) | (simp [*]; done)), (by first | rfl | (simp; done) | (simp [*]; done)), H', ⟨Nat.le_refl _⟩, by repeat (first | exact Drawn0.refl _ | apply Drawn0.step)⟩
 case round =>
  clear H'
  try clear c1
  try clear p2
  obtain ⟨x5_1, x6_1, rfl, rfl, HA, HK1, ⟨m1, rfl⟩⟩ := hrel
  cases gk with
  | zero => exact absurd HA.out (by simp [r06_longest.l0])
  | succ k1 =>
   have H := HA.out
   clear HA
   simp only [r06_longest.l0] at H
   by_cases c3 : x6_1 < (l0.length : Int)
   ·
    rw [if_pos c3] at H
    have c3b0 : decide (x6_1 < (l0.length : Int)) = true := decide_eq_true c3
    clear c3
    by_cases c4 : 0 ≤ x6_1
    ·
     rw [if_pos c4] at H
     have c4b0 : decide (0 ≤ x6_1) = true := decide_eq_true c4
     clear c4
     by_cases c5 : ((rdOf ByteArray.empty l0 x6_1).size : Int) ≤ (l1.length : Int)
     ·
      rw [if_pos c5] at H
      have c5b0 : decide (((rdOf ByteArray.empty l0 x6_1).size : Int) ≤ (l1.length : Int)) = true := decide_eq_true c5
      have c5b1 : decide ((rdOf ByteArray.empty l0 x6_1).size ≤ l1.length) = true := decide_eq_true (Int.ofNat_le.mp c5)
      clear c5
      by_cases c6 : 0 ≤ ((rdOf ByteArray.empty l0 x6_1).size : Int)
      ·
       rw [if_pos c6] at H
       have c6b0 := eq_true c6
       have c6b1 : decide (0 ≤ ((rdOf ByteArray.empty l0 x6_1).size : Int)) = true := decide_eq_true c6
       clear c6
       have c7b0 := eq_true (of_decide_eq_true (by first | (with_reducible assumption) | assumption) : ((rdOf ByteArray.empty l0 x6_1).size : Int) ≤ (l1.length : Int))
       obtain ⟨y406, hy406⟩ : ∃ y_ : List Int, y_ = (l1.take (((rdOf ByteArray.empty l0 x6_1).size : Int) : Int).toNat) := ⟨_, rfl⟩
       replace H : (if (strOfNums y406).toList = (rdOf ByteArray.empty l0 x6_1).toList then (if x5_1 < 0 then (r06_longest.l0 k1 l0 l1 x6_1 (wrap64 (x6_1 + 1))) else (if 0 ≤ x5_1 then (if x5_1 < (l0.length : Int) then (if ((rdOf ByteArray.empty l0 x6_1).size : Int) > ((rdOf ByteArray.empty l0 x5_1).size : Int) then (r06_longest.l0 k1 l0 l1 x6_1 (wrap64 (x6_1 + 1))) else (r06_longest.l0 k1 l0 l1 x5_1 (wrap64 (x6_1 + 1)))) else (none)) else (none))) else (r06_longest.l0 k1 l0 l1 x5_1 (wrap64 (x6_1 + 1)))) = some r := by first | (rw [hy406]; with_reducible exact H) | (have H2_ := (Option.bind_some _ _).symm.trans H; rw [hy406]; with_reducible exact H2_) | (have H2_ := (Option.bind_some _ _).symm.trans H; with_reducible exact H2_) | with_reducible exact H | (rw [hy406]; exact H) | exact H
       have Ny406 := aM hy406
       clear hy406
       by_cases c8 : (strOfNums y406).toList = (rdOf ByteArray.empty l0 x6_1).toList
       ·
        rw [if_pos c8] at H
        have c8b0 : ((strOfNums y406).toList == (rdOf ByteArray.empty l0 x6_1).toList) = true := beq_iff_eq.mpr c8
        have c8b1 : ((strOfNums y406).toList != (rdOf ByteArray.empty l0 x6_1).toList) = false := bne_eq_false_iff_eq.mpr c8
        clear c8
        by_cases c9 : x5_1 < 0
        ·
         rw [if_pos c9] at H
         have c9b0 : decide (x5_1 < 0) = true := decide_eq_true c9
         clear c9
         have H' := aM H
         clear H
         have p404 : 0 ≤ (x6_1 : Int) := of_decide_eq_true (by first | (with_reducible assumption) | assumption)
         have q404 : x6_1 < (l0.length : Int) := of_decide_eq_true (by first | (with_reducible assumption) | assumption)
         obtain ⟨ad404, e404, hx404_0⟩ := Kd.at_string HR0.out x6_1 p404 q404
         cases e404
         replace p404 := eq_true p404
         replace q404 := eq_true q404
         have p405 : 0 ≤ (x6_1 : Int) := of_decide_eq_true (by first | (with_reducible assumption) | assumption)
         have q405 : x6_1 < (l0.length : Int) := of_decide_eq_true (by first | (with_reducible assumption) | assumption)
         obtain ⟨ad405, e405, hx405_0⟩ := Kd.at_string HR0.out x6_1 p405 q405
         obtain rfl : ad404 = ad405 := (by injection e405)
         replace p405 := eq_true p405
         replace q405 := eq_true q405
         have q10 : (((rdOf ByteArray.empty l0 x6_1).size : Int) : Int) ≤ ((l1.length : Int) : Int) := of_decide_eq_true (by first | (with_reducible assumption) | assumption)
         obtain ⟨i010, hi010, _, hsz10, _⟩ := info_parts info5
         have hroom10 : l1.length ≤ c1 := HC1.out
         have hC10 : Kd.C (Kd.int .u8) _ A1 l1.length l1 := HR1.out
         have hcut10 := cut_to (P := Try.prog) 22 5 .i64 Try.underlying22 hi010 A1 l1.length c1 ((rdOf ByteArray.empty l0 x6_1).size : Int) (of_decide_eq_true (by first | (with_reducible assumption) | assumption)) q10 hroom10
         have hr10 := Kd.C_take (m := (((rdOf ByteArray.empty l0 x6_1).size : Int) : Int).toNat) hC10 (by omega)
         have hy10 : y406.length = (((rdOf ByteArray.empty l0 x6_1).size : Int) : Int).toNat := (by rw [Ny406.out, List.length_take]; omega)
         rw [← Ny406.out] at hr10
         rw [← hy10] at hcut10
         have HR409 := aM hr10
         have HC409 := aM (show y406.length ≤ c1 from by omega)
         clear hr10 hC10 hroom10 hi010 hsz10
         have KY10 := aM hy10
         clear hy10
         replace q10 := eq_true q10
         have hcv11 := Kd.C_string (P := Try.prog) (A := A1) (c := c1) Try.underlying22 Try.underlying5 Try.underlying9 HR409.out
         have hcv12 := fun nq_ : Nat => Kd.C_string (P := Try.prog) (A := A1) (c := c1) Try.underlying22 Try.underlying5 Try.underlying9 (Kd.C_drewN (show Kd.C (Kd.int .u8) _ A1 _ _ from HR409.out) nq_)
         have p410 : 0 ≤ (x6_1 : Int) := of_decide_eq_true (by first | (with_reducible assumption) | assumption)
         have q410 : x6_1 < (l0.length : Int) := of_decide_eq_true (by first | (with_reducible assumption) | assumption)
         obtain ⟨ad410, e410, hx410_0⟩ := Kd.at_string HR0.out x6_1 p410 q410
         obtain rfl : ad404 = ad410 := (by injection e410)
         replace p410 := eq_true p410
         replace q410 := eq_true q410
         go_wp2
         repeat (go_quiet (fail); try go_wp2)
         go_roundg k1
         case measure => have := HK1.out; omega
         case rel => exact ⟨(x6_1), (wrap64 (x6_1 + 1)), (by first | rfl | (simp; done) | (simp [*]; done)), (by first | rfl | (simp; done) | (simp [*]; done)), H', ⟨by have := HK1.out; omega⟩, by repeat (first | exact Drawn0.refl _ | apply Drawn0.step)⟩
        ·
         rw [if_neg c9] at H
         have c9b0 : decide (x5_1 < 0) = false := decide_eq_false c9
         clear c9
         by_cases c13 : 0 ≤ x5_1
         ·
          rw [if_pos c13] at H
          have c13b0 : decide (0 ≤ x5_1) = true := decide_eq_true c13
          clear c13
          by_cases c14 : x5_1 < (l0.length : Int)
          ·
           rw [if_pos c14] at H
           have c14b0 : decide (x5_1 < (l0.length : Int)) = true := decide_eq_true c14
           clear c14
           by_cases c15 : ((rdOf ByteArray.empty l0 x6_1).size : Int) > ((rdOf ByteArray.empty l0 x5_1).size : Int)
           ·
            rw [if_pos c15] at H
            have c15b0 : decide (((rdOf ByteArray.empty l0 x5_1).size : Int) < ((rdOf ByteArray.empty l0 x6_1).size : Int)) = true := decide_eq_true c15
            have c15b1 : decide ((rdOf ByteArray.empty l0 x5_1).size < (rdOf ByteArray.empty l0 x6_1).size) = true := decide_eq_true (Int.ofNat_lt.mp c15)
            clear c15
            have H' := aM H
            clear H
            have p404 : 0 ≤ (x6_1 : Int) := of_decide_eq_true (by first | (with_reducible assumption) | assumption)
            have q404 : x6_1 < (l0.length : Int) := of_decide_eq_true (by first | (with_reducible assumption) | assumption)
            obtain ⟨ad404, e404, hx404_0⟩ := Kd.at_string HR0.out x6_1 p404 q404
            cases e404
            replace p404 := eq_true p404
            replace q404 := eq_true q404
            have p405 : 0 ≤ (x6_1 : Int) := of_decide_eq_true (by first | (with_reducible assumption) | assumption)
            have q405 : x6_1 < (l0.length : Int) := of_decide_eq_true (by first | (with_reducible assumption) | assumption)
            obtain ⟨ad405, e405, hx405_0⟩ := Kd.at_string HR0.out x6_1 p405 q405
            obtain rfl : ad404 = ad405 := (by injection e405)
            replace p405 := eq_true p405
            replace q405 := eq_true q405
            have q16 : (((rdOf ByteArray.empty l0 x6_1).size : Int) : Int) ≤ ((l1.length : Int) : Int) := of_decide_eq_true (by first | (with_reducible assumption) | assumption)
            obtain ⟨i016, hi016, _, hsz16, _⟩ := info_parts info5
            have hroom16 : l1.length ≤ c1 := HC1.out
            have hC16 : Kd.C (Kd.int .u8) _ A1 l1.length l1 := HR1.out
            have hcut16 := cut_to (P := Try.prog) 22 5 .i64 Try.underlying22 hi016 A1 l1.length c1 ((rdOf ByteArray.empty l0 x6_1).size : Int) (of_decide_eq_true (by first | (with_reducible assumption) | assumption)) q16 hroom16
            have hr16 := Kd.C_take (m := (((rdOf ByteArray.empty l0 x6_1).size : Int) : Int).toNat) hC16 (by omega)
            have hy16 : y406.length = (((rdOf ByteArray.empty l0 x6_1).size : Int) : Int).toNat := (by rw [Ny406.out, List.length_take]; omega)
            rw [← Ny406.out] at hr16
            rw [← hy16] at hcut16
            have HR409 := aM hr16
            have HC409 := aM (show y406.length ≤ c1 from by omega)
            clear hr16 hC16 hroom16 hi016 hsz16
            have KY16 := aM hy16
            clear hy16
            replace q16 := eq_true q16
            have hcv17 := Kd.C_string (P := Try.prog) (A := A1) (c := c1) Try.underlying22 Try.underlying5 Try.underlying9 HR409.out
            have hcv18 := fun nq_ : Nat => Kd.C_string (P := Try.prog) (A := A1) (c := c1) Try.underlying22 Try.underlying5 Try.underlying9 (Kd.C_drewN (show Kd.C (Kd.int .u8) _ A1 _ _ from HR409.out) nq_)
            have p410 : 0 ≤ (x6_1 : Int) := of_decide_eq_true (by first | (with_reducible assumption) | assumption)
            have q410 : x6_1 < (l0.length : Int) := of_decide_eq_true (by first | (with_reducible assumption) | assumption)
            obtain ⟨ad410, e410, hx410_0⟩ := Kd.at_string HR0.out x6_1 p410 q410
            obtain rfl : ad404 = ad410 := (by injection e410)
            replace p410 := eq_true p410
            replace q410 := eq_true q410
            have p411 : 0 ≤ (x6_1 : Int) := of_decide_eq_true (by first | (with_reducible assumption) | assumption)
            have q411 : x6_1 < (l0.length : Int) := of_decide_eq_true (by first | (with_reducible assumption) | assumption)
            obtain ⟨ad411, e411, hx411_0⟩ := Kd.at_string HR0.out x6_1 p411 q411
            obtain rfl : ad404 = ad411 := (by injection e411)
            replace p411 := eq_true p411
            replace q411 := eq_true q411
            have p412 : 0 ≤ (x5_1 : Int) := of_decide_eq_true (by first | (with_reducible assumption) | assumption)
            have q412 : x5_1 < (l0.length : Int) := of_decide_eq_true (by first | (with_reducible assumption) | assumption)
            obtain ⟨ad412, e412, hx412_0⟩ := Kd.at_string HR0.out x5_1 p412 q412
            obtain rfl : ad404 = ad412 := (by injection e412)
            replace p412 := eq_true p412
            replace q412 := eq_true q412
            go_wp2
            repeat (go_quiet (fail); try go_wp2)
            go_roundg k1
            case measure => have := HK1.out; omega
            case rel => exact ⟨(x6_1), (wrap64 (x6_1 + 1)), (by first | rfl | (simp; done) | (simp [*]; done)), (by first | rfl | (simp; done) | (simp [*]; done)), H', ⟨by have := HK1.out; omega⟩, by repeat (first | exact Drawn0.refl _ | apply Drawn0.step)⟩
           ·
            rw [if_neg c15] at H
            have c15b0 : decide (((rdOf ByteArray.empty l0 x5_1).size : Int) < ((rdOf ByteArray.empty l0 x6_1).size : Int)) = false := decide_eq_false c15
            have c15b1 : decide ((rdOf ByteArray.empty l0 x5_1).size < (rdOf ByteArray.empty l0 x6_1).size) = false := decide_eq_false (fun h => c15 (Int.ofNat_lt.mpr h))
            clear c15
            have H' := aM H
            clear H
            have p404 : 0 ≤ (x6_1 : Int) := of_decide_eq_true (by first | (with_reducible assumption) | assumption)
            have q404 : x6_1 < (l0.length : Int) := of_decide_eq_true (by first | (with_reducible assumption) | assumption)
            obtain ⟨ad404, e404, hx404_0⟩ := Kd.at_string HR0.out x6_1 p404 q404
            cases e404
            replace p404 := eq_true p404
            replace q404 := eq_true q404
            have p405 : 0 ≤ (x6_1 : Int) := of_decide_eq_true (by first | (with_reducible assumption) | assumption)
            have q405 : x6_1 < (l0.length : Int) := of_decide_eq_true (by first | (with_reducible assumption) | assumption)
            obtain ⟨ad405, e405, hx405_0⟩ := Kd.at_string HR0.out x6_1 p405 q405
            obtain rfl : ad404 = ad405 := (by injection e405)
            replace p405 := eq_true p405
            replace q405 := eq_true q405
            have q19 : (((rdOf ByteArray.empty l0 x6_1).size : Int) : Int) ≤ ((l1.length : Int) : Int) := of_decide_eq_true (by first | (with_reducible assumption) | assumption)
            obtain ⟨i019, hi019, _, hsz19, _⟩ := info_parts info5
            have hroom19 : l1.length ≤ c1 := HC1.out
            have hC19 : Kd.C (Kd.int .u8) _ A1 l1.length l1 := HR1.out
            have hcut19 := cut_to (P := Try.prog) 22 5 .i64 Try.underlying22 hi019 A1 l1.length c1 ((rdOf ByteArray.empty l0 x6_1).size : Int) (of_decide_eq_true (by first | (with_reducible assumption) | assumption)) q19 hroom19
            have hr19 := Kd.C_take (m := (((rdOf ByteArray.empty l0 x6_1).size : Int) : Int).toNat) hC19 (by omega)
            have hy19 : y406.length = (((rdOf ByteArray.empty l0 x6_1).size : Int) : Int).toNat := (by rw [Ny406.out, List.length_take]; omega)
            rw [← Ny406.out] at hr19
            rw [← hy19] at hcut19
            have HR409 := aM hr19
            have HC409 := aM (show y406.length ≤ c1 from by omega)
            clear hr19 hC19 hroom19 hi019 hsz19
            have KY19 := aM hy19
            clear hy19
            replace q19 := eq_true q19
            have hcv20 := Kd.C_string (P := Try.prog) (A := A1) (c := c1) Try.underlying22 Try.underlying5 Try.underlying9 HR409.out
            have hcv21 := fun nq_ : Nat => Kd.C_string (P := Try.prog) (A := A1) (c := c1) Try.underlying22 Try.underlying5 Try.underlying9 (Kd.C_drewN (show Kd.C (Kd.int .u8) _ A1 _ _ from HR409.out) nq_)
            have p410 : 0 ≤ (x6_1 : Int) := of_decide_eq_true (by first | (with_reducible assumption) | assumption)
            have q410 : x6_1 < (l0.length : Int) := of_decide_eq_true (by first | (with_reducible assumption) | assumption)
            obtain ⟨ad410, e410, hx410_0⟩ := Kd.at_string HR0.out x6_1 p410 q410
            obtain rfl : ad404 = ad410 := (by injection e410)
            replace p410 := eq_true p410
            replace q410 := eq_true q410
            have p411 : 0 ≤ (x6_1 : Int) := of_decide_eq_true (by first | (with_reducible assumption) | assumption)
            have q411 : x6_1 < (l0.length : Int) := of_decide_eq_true (by first | (with_reducible assumption) | assumption)
            obtain ⟨ad411, e411, hx411_0⟩ := Kd.at_string HR0.out x6_1 p411 q411
            obtain rfl : ad404 = ad411 := (by injection e411)
            replace p411 := eq_true p411
            replace q411 := eq_true q411
            have p412 : 0 ≤ (x5_1 : Int) := of_decide_eq_true (by first | (with_reducible assumption) | assumption)
            have q412 : x5_1 < (l0.length : Int) := of_decide_eq_true (by first | (with_reducible assumption) | assumption)
            obtain ⟨ad412, e412, hx412_0⟩ := Kd.at_string HR0.out x5_1 p412 q412
            obtain rfl : ad404 = ad412 := (by injection e412)
            replace p412 := eq_true p412
            replace q412 := eq_true q412
            go_wp2
            repeat (go_quiet (fail); try go_wp2)
            go_roundg k1
            case measure => have := HK1.out; omega
            case rel => exact ⟨(x5_1), (wrap64 (x6_1 + 1)), (by first | rfl | (simp; done) | (simp [*]; done)), (by first | rfl | (simp; done) | (simp [*]; done)), H', ⟨by have := HK1.out; omega⟩, by repeat (first | exact Drawn0.refl _ | apply Drawn0.step)⟩
          ·
           rw [if_neg c14] at H
           exact absurd H (by simp)
         ·
          rw [if_neg c13] at H
          exact absurd H (by simp)
       ·
        rw [if_neg c8] at H
        have c8b0 : ((strOfNums y406).toList == (rdOf ByteArray.empty l0 x6_1).toList) = false := beq_eq_false_iff_ne.mpr c8
        have c8b1 : ((strOfNums y406).toList != (rdOf ByteArray.empty l0 x6_1).toList) = true := bne_iff_ne.mpr c8
        have H' := aM H
        clear H
        have p404 : 0 ≤ (x6_1 : Int) := of_decide_eq_true (by first | (with_reducible assumption) | assumption)
        have q404 : x6_1 < (l0.length : Int) := of_decide_eq_true (by first | (with_reducible assumption) | assumption)
        obtain ⟨ad404, e404, hx404_0⟩ := Kd.at_string HR0.out x6_1 p404 q404
        cases e404
        replace p404 := eq_true p404
        replace q404 := eq_true q404
        have p405 : 0 ≤ (x6_1 : Int) := of_decide_eq_true (by first | (with_reducible assumption) | assumption)
        have q405 : x6_1 < (l0.length : Int) := of_decide_eq_true (by first | (with_reducible assumption) | assumption)
        obtain ⟨ad405, e405, hx405_0⟩ := Kd.at_string HR0.out x6_1 p405 q405
        obtain rfl : ad404 = ad405 := (by injection e405)
        replace p405 := eq_true p405
        replace q405 := eq_true q405
        have q22 : (((rdOf ByteArray.empty l0 x6_1).size : Int) : Int) ≤ ((l1.length : Int) : Int) := of_decide_eq_true (by first | (with_reducible assumption) | assumption)
        obtain ⟨i022, hi022, _, hsz22, _⟩ := info_parts info5
        have hroom22 : l1.length ≤ c1 := HC1.out
        have hC22 : Kd.C (Kd.int .u8) _ A1 l1.length l1 := HR1.out
        have hcut22 := cut_to (P := Try.prog) 22 5 .i64 Try.underlying22 hi022 A1 l1.length c1 ((rdOf ByteArray.empty l0 x6_1).size : Int) (of_decide_eq_true (by first | (with_reducible assumption) | assumption)) q22 hroom22
        have hr22 := Kd.C_take (m := (((rdOf ByteArray.empty l0 x6_1).size : Int) : Int).toNat) hC22 (by omega)
        have hy22 : y406.length = (((rdOf ByteArray.empty l0 x6_1).size : Int) : Int).toNat := (by rw [Ny406.out, List.length_take]; omega)
        rw [← Ny406.out] at hr22
        rw [← hy22] at hcut22
        have HR409 := aM hr22
        have HC409 := aM (show y406.length ≤ c1 from by omega)
        clear hr22 hC22 hroom22 hi022 hsz22
        have KY22 := aM hy22
        clear hy22
        replace q22 := eq_true q22
        have hcv23 := Kd.C_string (P := Try.prog) (A := A1) (c := c1) Try.underlying22 Try.underlying5 Try.underlying9 HR409.out
        have hcv24 := fun nq_ : Nat => Kd.C_string (P := Try.prog) (A := A1) (c := c1) Try.underlying22 Try.underlying5 Try.underlying9 (Kd.C_drewN (show Kd.C (Kd.int .u8) _ A1 _ _ from HR409.out) nq_)
        have p410 : 0 ≤ (x6_1 : Int) := of_decide_eq_true (by first | (with_reducible assumption) | assumption)
        have q410 : x6_1 < (l0.length : Int) := of_decide_eq_true (by first | (with_reducible assumption) | assumption)
        obtain ⟨ad410, e410, hx410_0⟩ := Kd.at_string HR0.out x6_1 p410 q410
        obtain rfl : ad404 = ad410 := (by injection e410)
        replace p410 := eq_true p410
        replace q410 := eq_true q410
        go_wp2
        repeat (go_quiet (fail); try go_wp2)
        go_roundg k1
        case measure => have := HK1.out; omega
        case rel => exact ⟨(x5_1), (wrap64 (x6_1 + 1)), (by first | rfl | (simp; done) | (simp [*]; done)), (by first | rfl | (simp; done) | (simp [*]; done)), H', ⟨by have := HK1.out; omega⟩, by repeat (first | exact Drawn0.refl _ | apply Drawn0.step)⟩
      ·
       rw [if_neg c6] at H
       exact absurd H (by simp)
     ·
      rw [if_neg c5] at H
      have c5b0 : decide (((rdOf ByteArray.empty l0 x6_1).size : Int) ≤ (l1.length : Int)) = false := decide_eq_false c5
      have c5b1 : decide ((rdOf ByteArray.empty l0 x6_1).size ≤ l1.length) = false := decide_eq_false (fun h => c5 (Int.ofNat_le.mpr h))
      clear c5
      have H' := aM H
      clear H
      have p404 : 0 ≤ (x6_1 : Int) := of_decide_eq_true (by first | (with_reducible assumption) | assumption)
      have q404 : x6_1 < (l0.length : Int) := of_decide_eq_true (by first | (with_reducible assumption) | assumption)
      obtain ⟨ad404, e404, hx404_0⟩ := Kd.at_string HR0.out x6_1 p404 q404
      cases e404
      replace p404 := eq_true p404
      replace q404 := eq_true q404
      go_wp2
      repeat (go_quiet (fail); try go_wp2)
      go_roundg k1
      case measure => have := HK1.out; omega
      case rel => exact ⟨(x5_1), (wrap64 (x6_1 + 1)), (by first | rfl | (simp; done) | (simp [*]; done)), (by first | rfl | (simp; done) | (simp [*]; done)), H', ⟨by have := HK1.out; omega⟩, by repeat (first | exact Drawn0.refl _ | apply Drawn0.step)⟩
    ·
     rw [if_neg c4] at H
     exact absurd H (by simp)
   ·
    rw [if_neg c3] at H
    have c3b0 : decide (x6_1 < (l0.length : Int)) = false := decide_eq_false c3
    clear c3
    obtain rfl := Option.some.inj H
    go_wp2
    repeat (go_quiet (fail); try go_wp2)
    go_ret
    exact ⟨by first | rfl | (simp; done) | (simp [*]; done), by repeat (first | exact Drawn0.refl _ | apply Drawn0.step)⟩
end Go.Proofs.Ythaifibhflfpkaa.Q
end
