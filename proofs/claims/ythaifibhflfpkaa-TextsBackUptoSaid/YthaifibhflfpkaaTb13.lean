/- A part of the claim's own texts: words, walks and plain laws. -/
import Derived.ScopeJumps
import Derived.Test.YthaifibhflfpkaaTb2
import Derived.Test.YthaifibhflfpkaaTb12
import Derived.Test.YthaifibhflfpkaaTb5
import Derived.Test.YthaifibhflfpkaaTb8
import Derived.Test.YthaifibhflfpkaaTb6
namespace Go.Proofs.YthaifibhflfpkaaX
abbrev b79_ : Array Bool := #[false, false, false, false, false, false, false, false, false, false, false, false, false, false]
abbrev b80_ : Array Bool := #[false, false, false, false, false, false, false, false, false, false, false, false, false, false, false]
abbrev b81_ : Array Bool := #[true, false, false, false, false, false, false, false, false, false, false, false, false, false]
abbrev b82_ : Array Bool := #[true, false, false, false, false, false, false, false, false, false, false, false, false, false, false]
abbrev b83_ : Array Bool := #[true, true, false, false, false, false, false, false, false, false, false, false, false, false]
abbrev b84_ : Array Bool := #[true, true, false, false, false, false, false, false, false, false, false, false, false, false, false]
abbrev b85_ : Array Bool := #[true, true, false, false, false, true, false, false, false, false, false, false, false, false, false]
abbrev b86_ : Array Bool := #[true, true, false, false, false, true, true, false, false, false, false, false, false, false, false]
abbrev b87_ : Array Bool := #[true, true, false, false, false, true, true, false, false, false, true, false, false, false, false]
abbrev b88_ : Array Bool := #[true, true, false, false, false, true, true, false, false, false, true, true, false, false, false]
abbrev b89_ : Array Bool := #[true, true, false, false, true, false, false, false, false, false, false, false, false, false]
abbrev b90_ : Array Bool := #[true, true, false, false, true, true, false, false, false, false, false, false, false, false]
abbrev b91_ : Array Bool := #[true, true, false, false, true, true, false, false, false, false, true, false, false, false]
abbrev b92_ : Array Bool := #[true, true, false, false, true, true, false, false, false, false, true, true, false, false]
abbrev b93_ : Array Bool := #[true, true, true, false, false, true, true, false, false, false, true, true, false, false, false]
abbrev b94_ : Array Bool := #[true, true, true, false, true, true, false, false, false, false, true, true, false, false]
abbrev b95_ : Array Bool := #[true, true, true, true, false, false, false, false, false, false]
abbrev b96_ : Array Bool := #[true, true, true, true, false, true, false, false, false, false]
abbrev b97_ : Array Bool := #[true, true, true, true, false, true, true, false, false, false]
abbrev b98_ : Array Bool := #[true, true, true, true, false, true, true, false, false, false, true, true, false, false, false]
abbrev b99_ : Array Bool := #[true, true, true, true, true, true, false, false, false, false, true, true, false, false]
abbrev b100_ : Array Bool := #[true, true, true, true, true, true, true, false, false, false, true, true, false, false]
abbrev b101_ : Array Bool := #[true, true, true, true, true, true, true, false, false, false, true, true, false, false, false]
abbrev b102_ : Array Bool := #[true, true, true, true, true, true, true, false, false, false, true, true, true, false, false]
abbrev b103_ : Array Bool := #[true, true, true, true, true, true, true, true, false, false, true, true, false, false]
abbrev b104_ : Array Bool := #[true, true, true, true, true, true, true, true, false, false, true, true, true, false, false]
abbrev b105_ : Array Bool := #[true, true, true, true, true, true, true, true, true, false, true, true, false, false]
abbrev b106_ : Array Bool := #[true, true, true, true, true, true, true, true, true, false, true, true, true, false, false]
abbrev b107_ : Array Bool := #[true, true, true, true, true, true, true, true, true, true, true, true, false, false]
abbrev b108_ : Array Bool := #[true, true, true, true, true, true, true, true, true, true, true, true, true, false]
abbrev b109_ : Array Bool := #[true, true, true, true, true, true, true, true, true, true, true, true, true, false, false]
abbrev b110_ : Array Bool := #[true, true, true, true, true, true, true, true, true, true, true, true, true, true]
abbrev b111_ : Array Bool := #[true, true, true, true, true, true, true, true, true, true, true, true, true, true, false]
abbrev b112_ : Array Bool := #[true, true, true, true, true, true, true, true, true, true, true, true, true, true, true]
end Go.Proofs.YthaifibhflfpkaaX
section
namespace Go.Proofs.YthaifibhflfpkaaX
open Go
def jumps (J : Nat → Act → World → Prop) (Q : Exit → Act → World → Prop) : Exit → Act → World → Prop
  | .goto l, a, w => J l a w
  | e, a, w => Q e a w
theorem wp_scope_labels {P : Program} {a : Act} {w : World} {Q : Exit → Act → World → Prop} {c : Code} (J : Nat → Act → World → Prop) (μ : Nat → Act → World → Nat) (lab : Nat → Code) (hf : ∀ l a w, J l a w → findLabel c l = some (lab l))
    (first : c.wp P (jumps J Q) a w)
    (pass : ∀ l a w, J l a w → (lab l).wp P (jumps (fun l' a' w' => J l' a' w' ∧ μ l' a' w' < μ l a w) Q) a w) : (Code.scope c).wp P Q a w := by
  intro b k cs
  have key : ∀ n l a w, μ l a w = n → J l a w → ∃ e a' w', Q e a' w' ∧ Arrives P (lone (b.at a (.code (lab l) :: .inScope c :: k)) cs w) b k cs e a' w' := by
    intro n
    induction n using Nat.strongRecOn with
    | _ n ih =>
      intro l a w hn hJ
      obtain ⟨e, a₁, w₁, hq, harr⟩ := pass l a w hJ b (.inScope c :: k) cs
      cases e with
      | normal => exact ⟨.normal, a₁, w₁, hq, Steps.trans harr (.one step_inScope)⟩
      | exit id => exact ⟨.exit id, a₁, w₁, hq, fun k' hk => harr k' (by simp [exitTo, hk])⟩
      | goto l' =>
        obtain ⟨hJ', hlt⟩ := hq
        obtain ⟨e₂, a₂, w₂, hq₂, harr₂⟩ := ih _ (by omega) l' a₁ w₁ rfl hJ'
        have hg : gotoIn l' (.inScope c :: k) = some (.code (lab l') :: .inScope c :: k) := by simp [gotoIn, hf l' a₁ w₁ hJ']
        exact ⟨e₂, a₂, w₂, hq₂, .of_steps (harr _ hg) harr₂⟩
      | ret => exact ⟨_, a₁, w₁, hq, harr⟩
      | panic ch => exact ⟨_, a₁, w₁, hq, harr⟩
      | outgrown => exact ⟨_, a₁, w₁, hq, harr⟩
  obtain ⟨e, a₁, w₁, hq, harr⟩ := first b (.inScope c :: k) cs
  cases e with
  | normal => exact ⟨.normal, a₁, w₁, hq, .head step_scope (Steps.trans harr (.one step_inScope))⟩
  | exit id => exact ⟨.exit id, a₁, w₁, hq, fun k' hk => .head step_scope (harr k' (by simp [exitTo, hk]))⟩
  | goto l' =>
    have hJ' : J l' a₁ w₁ := hq
    obtain ⟨e₂, a₂, w₂, hq₂, harr₂⟩ := key _ l' a₁ w₁ rfl hJ'
    have hg : gotoIn l' (.inScope c :: k) = some (.code (lab l') :: .inScope c :: k) := by simp [gotoIn, hf l' a₁ w₁ hJ']
    exact ⟨e₂, a₂, w₂, hq₂, .of_steps (.head step_scope (harr _ hg)) harr₂⟩
  | ret => exact ⟨_, a₁, w₁, hq, .of_steps (.one step_scope) harr⟩
  | panic ch => exact ⟨_, a₁, w₁, hq, .of_steps (.one step_scope) harr⟩
  | outgrown => exact ⟨_, a₁, w₁, hq, .of_steps (.one step_scope) harr⟩
def jumps3 (J0 J1 J2 : Act → World → Prop) (Q : Exit → Act → World → Prop) : Exit → Act → World → Prop
  | .goto 0, a, w => J0 a w
  | .goto 1, a, w => J1 a w
  | .goto 2, a, w => J2 a w
  | .goto _, _, _ => False
  | e, a, w => Q e a w
theorem jumps3_ret (J0 J1 J2 : Act → World → Prop) (Q : Exit → Act → World → Prop) : jumps3 J0 J1 J2 Q .ret = Q .ret := rfl
theorem wp_scope_three {P : Program} {a : Act} {w : World} {Q : Exit → Act → World → Prop} {c c0 c1 c2 : Code} (J0 J1 J2 : Act → World → Prop) (μ : Act → World → Nat) (h0 : findLabel c 0 = some c0) (h1 : findLabel c 1 = some (Code.seq .skip c1)) (h2 : findLabel c 2 = some c2)
    (first : (∀ a w, J1 a w → c1.wp P (jumps3 J0 J1 J2 Q) a w) → c.wp P (jumps3 J0 J1 J2 Q) a w) (pass0 : ∀ a w, J0 a w → c0.wp P (Exit.noGoto Q) a w) (pass2 : ∀ a w, J2 a w → c2.wp P (Exit.noGoto Q) a w)
    (pass1 : ∀ a w, J1 a w → c1.wp P (jumps3 J0 (fun a' w' => J1 a' w' ∧ μ a' w' < μ a w) J2 Q) a w) : (Code.scope c).wp P Q a w := by
  have first := first (fun a w h => by
    refine wp_mono (pass1 a w h) ?_
    intro e a w h
    cases e with
    | goto l =>
      match l with
      | 0 => exact h
      | 1 => exact h.1
      | 2 => exact h
      | _ + 3 => exact h.elim
    | _ => exact h)
  refine wp_scope_labels (fun l a w => match l with | 0 => J0 a w | 1 => J1 a w | 2 => J2 a w | _ => False) (fun l a w => match l with | 1 => μ a w + 1 | _ => 0) (fun l => match l with | 0 => c0 | 1 => Code.seq .skip c1 | 2 => c2 | _ => .skip) ?_ ?_ ?_
  · intro l a w h
    match l with
    | 0 => exact h0
    | 1 => exact h1
    | 2 => exact h2
    | _ + 3 => exact h.elim
  · refine wp_mono first ?_
    intro e a w h
    cases e with
    | goto l =>
      match l with
      | 0 => exact h
      | 1 => exact h
      | 2 => exact h
      | _ + 3 => exact h.elim
    | _ => exact h
  · intro l a w h
    match l with
    | 0 =>
      refine wp_mono (pass0 a w h) ?_
      intro e a w h
      cases e with
      | goto l => exact h.elim
      | _ => exact h
    | 1 =>
      refine wp_seq (wp_skip ?_)
      refine wp_mono (pass1 a w h) ?_
      intro e a' w' h'
      cases e with
      | goto l =>
        match l with
        | 0 => exact ⟨h', Nat.succ_pos _⟩
        | 1 => exact ⟨h'.1, Nat.succ_lt_succ h'.2⟩
        | 2 => exact ⟨h', Nat.succ_pos _⟩
        | _ + 3 => exact h'.elim
      | _ => exact h'
    | 2 =>
      refine wp_mono (pass2 a w h) ?_
      intro e a w h
      cases e with
      | goto l => exact h.elim
      | _ => exact h
    | _ + 3 => exact h.elim
theorem wp_scope_back {P : Program} {a : Act} {w : World} {Q : Exit → Act → World → Prop} {c c0 c1 c2 : Code} (J1 : Act → World → Prop) (μ : Act → World → Nat) (h0 : findLabel c 0 = some c0) (h1 : findLabel c 1 = some (Code.seq .skip c1)) (h2 : findLabel c 2 = some c2)
    (first : (∀ a w, J1 a w → c1.wp P (jumps3 (c0.wp P (Exit.noGoto Q)) J1 (c2.wp P (Exit.noGoto Q)) Q) a w) → c.wp P (jumps3 (c0.wp P (Exit.noGoto Q)) J1 (c2.wp P (Exit.noGoto Q)) Q) a w)
    (pass1 : ∀ a w, J1 a w → c1.wp P (jumps3 (c0.wp P (Exit.noGoto Q)) (fun a' w' => J1 a' w' ∧ μ a' w' < μ a w) (c2.wp P (Exit.noGoto Q)) Q) a w) : (Code.scope c).wp P Q a w :=
  wp_scope_three (c0.wp P (Exit.noGoto Q)) J1 (c2.wp P (Exit.noGoto Q)) μ h0 h1 h2 first (fun _ _ h => h) (fun _ _ h => h) pass1
theorem slots_of (t : Array Value) (n : Nat) (h : t.size = n) : ∃ u : Nat → Value, t = ((List.range n).map u).toArray := by
  refine ⟨fun i => t.getD i undef, ?_⟩
  apply Array.ext
  · simp [h]
  · intro i h1 h2
    simp [h1]
end Go.Proofs.YthaifibhflfpkaaX
end
section
namespace Go.Proofs.Ythaifibhflfpkaa.Q
open Go.RowKit Go.Proofs.YthaifibhflfpkaaW.PrintWords Go.Proofs.YthaifibhflfpkaaW.PrintLast Go.Proofs.YthaifibhflfpkaaW.PrintMore Go.Proofs.YthaifibhflfpkaaX
attribute [local go_sem] max2_int min2_int max_two min_two max_three min_three max_four min_four   -- for this text's walks alone
set_option linter.unusedVariables false
set_option linter.unusedSimpArgs false
def lz_Unpack.cnt (n : Int) (r : List Int) : Option (Int × List Int) := if n = 15 then (if (lz_count.c r 15).2.2 = true then some ((lz_count.c r 15).1, (lz_count.c r 15).2.1) else none) else some (n, r)
def lz_Unpack.cp (d : Nat) : Nat → List Int → List Int
 | 0, out => out
 | m + 1, out => lz_Unpack.cp d m (out ++ [rd out ((out.length - d : Nat) : Int)])
def lz_Unpack.go (most : Int) : Nat → List Int → List Int → List Int × Int
 | 0, _, _ => ([], 2)
 | _ + 1, [], _ => ([], 2)
 | f + 1, x :: r0, out => match lz_Unpack.cnt (x / 16) r0 with
  | none => ([], 2)
  | some (n, r1) => if n > most - out.length then ([], 5) else if n > r1.length then ([], 2) else
   match r1.drop n.toNat with
   | [] => if x % 16 = 0 then (out ++ r1.take n.toNat, 0) else ([], 2)
   | [_] => ([], 2)
   | a :: b :: r3 => if a + 256 * b = 0 ∨ a + 256 * b > (out ++ r1.take n.toNat).length then ([], 2) else
    match lz_Unpack.cnt (x % 16) r3 with
    | none => ([], 2)
    | some (m, r4) => if m + 4 > most - (out ++ r1.take n.toNat).length then ([], 5) else lz_Unpack.go most f r4 (lz_Unpack.cp (a + 256 * b).toNat (m + 4).toNat (out ++ r1.take n.toNat))
def lz_Unpack.f (l0 : List Int) (a1 : Int) : Option (List Int × Int) := if a1 < 0 then some ([], 1) else if (l0.length < 10000000000 ∧ a1 < 9223372036854775808) ∧ (∀ x ∈ l0, 0 ≤ x ∧ x < 256) then some (lz_Unpack.go a1 (l0.length + 1) l0 []) else none
def lz_Unpack.len : Value → Nat
 | .slice _ n _ => n
 | _ => 0
theorem lz_Unpack.or2 (a b : Int) (ha0 : 0 ≤ a) (ha1 : a < 256) (hb0 : 0 ≤ b) (hb1 : b < 256) : Go.bits .or .i64 (wrap64 a) (wrap64 (wrap64 b * 256)) = a + 256 * b := by
 have e1 : wrap64 a = a := by unfold wrap64; omega
 have e2 : wrap64 b = b := by unfold wrap64; omega
 have e3 : wrap64 (b * 256) = b * 256 := by unfold wrap64; omega
 rw [e1, e2, e3]
 have hk : ∀ n : Int, 0 ≤ n → n < 2 ^ 62 → IntKind.i64.wrap n = n := fun n h0 h1 => by rw [i64_w]; unfold wrap64; omega
 have h := Go.bits_join .i64 62 (by decide) hk 8 (b * 256) a (by omega) (by omega) (by omega) ha0 (by omega) (by omega)
 obtain ⟨p, rfl⟩ := Int.eq_ofNat_of_zero_le ha0
 obtain ⟨q, rfl⟩ := Int.eq_ofNat_of_zero_le hb0
 have eq : (q : Int) * 256 = ((q * 256 : Nat) : Int) := by omega
 rw [eq] at h ⊢
 have h1 := (Go.bits_nat .i64 62 (by decide) hk p (q * 256) (by omega) (by omega)).2
 have h2 := (Go.bits_nat .i64 62 (by decide) hk (q * 256) p (by omega) (by omega)).2
 rw [h1, Nat.or_comm, ← h2, h]
 omega
theorem lz_Unpack.c_ok : ∀ (l : List Int) (v : Int), (∀ x ∈ l, 0 ≤ x ∧ x < 256) → 0 ≤ v → v + 255 * l.length < 1000000000000000 → (lz_count.c l v).2.2 = true → v ≤ (lz_count.c l v).1 ∧ (lz_count.c l v).1 ≤ v + 255 * ((l.length : Int) - (lz_count.c l v).2.1.length) ∧ (lz_count.c l v).2.1.length ≤ l.length ∧ ∀ y ∈ (lz_count.c l v).2.1, y ∈ l
 | [], v, _, _, _, h => by simp [lz_count.c] at h
 | x :: r, v, hb, h0, h1, h => by
  have hx := hb x (by simp)
  have e1 : wrap64 x = x := by unfold wrap64; omega
  have e2 : wrap64 (v + x) = v + x := by simp only [List.length_cons] at h1; unfold wrap64; omega
  rw [lz_count.c, e1, e2] at h ⊢
  simp only [List.length_cons] at h1 ⊢
  split at h
  ·
   rename_i hx2
   rw [if_pos hx2]
   have ih := lz_Unpack.c_ok r (v + x) (fun y hy => hb y (by simp [hy])) (by omega) (by omega) h
   exact ⟨by omega, by omega, by omega, fun y hy => by simp [ih.2.2.2 y hy]⟩
  ·
   rename_i hx2
   rw [if_neg hx2]
   exact ⟨by simp only; omega, by simp only; omega, by simp only; omega, fun y hy => by simp [hy]⟩
theorem lz_Unpack.cnt_ok {n v : Int} {l r : List Int} (hb : ∀ x ∈ l, 0 ≤ x ∧ x < 256) (hl : l.length < 10000000000) (h0 : 0 ≤ n) (h1 : n ≤ 15) (h : lz_Unpack.cnt n l = some (v, r)) : 0 ≤ v ∧ v ≤ 15 + 255 * ((l.length : Int) - r.length) ∧ r.length ≤ l.length ∧ ∀ y ∈ r, 0 ≤ y ∧ y < 256 := by
 unfold lz_Unpack.cnt at h
 split at h
 ·
  split at h
  ·
   rename_i hc
   have := lz_Unpack.c_ok l 15 hb (by omega) (by omega) hc
   injection h with h
   injection h with h2 h3
   subst h2
   subst h3
   exact ⟨by omega, by omega, this.2.2.1, fun y hy => hb y (this.2.2.2 y hy)⟩
  · cases h
 ·
  injection h with h
  injection h with h2 h3
  subst h2
  subst h3
  exact ⟨h0, by omega, Nat.le_refl _, hb⟩
set_option maxHeartbeats 8000000 in
set_option maxRecDepth 100000 in
theorem lz_Unpack.calls (A0 : Option Addr) (c0 : Nat) (l0 : List Int) (a1 : Int) (r1 : List Int) (r2 : Int) (w : World) (hr0 : Kd.C (Kd.int .u8) w A0 l0.length l0) (hc0 : l0.length ≤ c0) (h : lz_Unpack.f l0 a1 = some (r1, r2)) :
  Calls Try.prog 61 #[.slice A0 l0.length c0, .int .i64 a1] w fun e w' => ∃ v0_ : Value, e = .returned (.tuple #[v0_, .int .i64 r2]) ∧ Kd.V (Kd.int .u8) 5 w' w.heap.size (fun k_ => w.heap.size ≤ k_) v0_ r1 ∧ Below w.heap.size w w' := by
 have HR0 := aM hr0
 have HC0 := aM hc0
 clear hr0 hc0
 have HB := aM (Below.refl w.heap.size w)
 unfold lz_Unpack.f at h
 by_cases hneg : a1 < 0
 ·
  rw [if_pos hneg] at h
  have d1 : decide (a1 < 0) = true := decide_eq_true hneg
  have HE := aM (Option.some.inj h)
  clear h hneg
  go_enter Try.func61, Try.ntmps61
  go_wp2
  go_step3
  go_wp2
  (try rw [Exit.noGoto_ret])
  have he := HE.out
  injection he with h1 h2
  subst h1
  subst h2
  go_ret2
  exact ⟨_, rfl, Kd.V_nil _ _ _ _ _, HB.out⟩
 ·
  rw [if_neg hneg] at h
  split at h
  case isFalse => exact absurd h (by simp)
  case isTrue hlim =>
  have d1 : decide (a1 < 0) = false := decide_eq_false hneg
  have HPOS : Aside0 (0 ≤ a1) := ⟨by omega⟩
  have HLIM := aM hlim.1.1
  have HA1 := aM hlim.1.2
  have HBY := aM hlim.2
  have HV := aM (Option.some.inj h)
  clear h hneg hlim
  go_enter Try.func61, Try.ntmps61
  go_wp2
  refine wp_scope_back (fun a' w' => ∃ (rest out : List Int) (A : Option Addr) (c : Nat) (v6 : Value), Aside0 (∃ f, rest.length < f ∧ lz_Unpack.go a1 f rest out = (r1, r2)) ∧ Aside0 (rest.length ≤ l0.length ∧ (out.length : Int) ≤ a1 ∧ out.length + 300 * rest.length ≤ 300 * l0.length) ∧ Aside0 (∀ x ∈ rest, 0 ≤ x ∧ x < 256) ∧ Aside0 (Kd.C (Kd.int .u8) w A rest.length rest ∧ rest.length ≤ c) ∧ Aside0 (Kd.R (Kd.int .u8) 5 w' w.heap.size (fun _ => True) v6 out) ∧ Aside0 (Below w.heap.size w w') ∧ a'.defers = [] ∧ a'.tmps.size = 121 ∧ a'.tmps.getD 0 undef = .slice A0 l0.length c0 ∧ a'.tmps.getD 1 undef = .int .i64 a1 ∧ a'.tmps.getD 6 undef = v6 ∧ a'.tmps.getD 10 undef = .slice A rest.length c) (fun a' _ => lz_Unpack.len (a'.tmps.getD 10 undef)) rfl rfl rfl ?first ?pass1
  case first =>
   intro hc1
   go_upto_region 7 with (fail)
   go_step3
   rename_i K hK
   exact hK _ _ (hc1 _ _ ⟨l0, [], A0, c0, .slice none 0 0, ⟨l0.length + 1, Nat.lt_succ_self _, HV.out⟩, ⟨Nat.le_refl _, HPOS.out, by simp⟩, HBY, ⟨HR0.out, HC0.out⟩, ⟨Kd.R_nil _ _ _ _ _⟩, HB, rfl, rfl, rfl, rfl, rfl, rfl⟩)
  case pass1 =>
   clear HV HBY HB
   rintro ⟨t, df⟩ w1 ⟨rest, out, A, c, v6, HG, HN, HBY, HR, HO, HB, hdf, hts, t0, t1, t6, t10⟩
   obtain rfl : df = [] := hdf
   obtain ⟨u, hu⟩ := slots_of t 121 hts
   have hu2 : t = #[u 0, u 1, u 2, u 3, u 4, u 5, u 6, u 7, u 8, u 9, u 10, u 11, u 12, u 13, u 14, u 15, u 16, u 17, u 18, u 19, u 20, u 21, u 22, u 23, u 24, u 25, u 26, u 27, u 28, u 29, u 30, u 31, u 32, u 33, u 34, u 35, u 36, u 37, u 38, u 39, u 40, u 41, u 42, u 43, u 44, u 45, u 46, u 47, u 48, u 49, u 50, u 51, u 52, u 53, u 54, u 55, u 56, u 57, u 58, u 59, u 60, u 61, u 62, u 63, u 64, u 65, u 66, u 67, u 68, u 69, u 70, u 71, u 72, u 73, u 74, u 75, u 76, u 77, u 78, u 79, u 80, u 81, u 82, u 83, u 84, u 85, u 86, u 87, u 88, u 89, u 90, u 91, u 92, u 93, u 94, u 95, u 96, u 97, u 98, u 99, u 100, u 101, u 102, u 103, u 104, u 105, u 106, u 107, u 108, u 109, u 110, u 111, u 112, u 113, u 114, u 115, u 116, u 117, u 118, u 119, u 120] := hu
   clear hu hts
   subst hu2
   have e0 : u 0 = .slice A0 l0.length c0 := t0
   have e1 : u 1 = .int .i64 a1 := t1
   have e6 : u 6 = v6 := t6
   have e10 : u 10 = .slice A rest.length c := t10
   clear t0 t1 t6 t10
   rw [e0, e1, e6, e10]
   clear e0 e1 e6 e10
   obtain ⟨i05, hi05, _, hsz5, _⟩ := info_parts info5
   have HI5 := aM hi05
   have HSZ5 := aM hsz5
   clear hi05 hsz5
   rcases hre : rest with _ | ⟨x, r0⟩
   ·
    subst hre
    have d7 : ((([] : List Int).length : Int) == 0) = true := rfl
    obtain ⟨f, hf, he⟩ := HG.out
    obtain ⟨f, rfl⟩ : ∃ g, f = g + 1 := ⟨f - 1, by omega⟩
    injection he with h1 h2
    subst h1
    subst h2
    clear HG hf
    go_wp2
    go_step3
    refine wp_mono (c := _) ?_ (fun _ _ _ h => h)
    go_wp2
    (try rw [Exit.noGoto_ret])
    refine bodyPost_ret (v := .tuple #[.slice none 0 0, .int .i64 2]) (by simp [results, Try.results61, go_sem]) rfl ⟨_, rfl, Kd.V_nil _ _ _ _ _, HB.out⟩
   ·
    have HRE := aM hre
    rw [← hre]
    have hl1 : rest.length = r0.length + 1 := by rw [hre]; rfl
    have HL1 := aM hl1
    have d7 : ((rest.length : Int) == 0) = false := beq_eq_false_iff_ne.mpr (by omega)
    have d7' : (rest.length == 0) = false := beq_eq_false_iff_ne.mpr (by omega)
    have p0 : (0 : Int) ≤ 0 := Int.le_refl 0
    have q0 : (0 : Int) < (rest.length : Int) := by omega
    obtain ⟨ad, hA, hx⟩ := Kd.at_int (Kd.C_below HR.out.1 HB.out) 0 p0 q0
    subst hA
    have hx0 : rd rest 0 = x := by rw [hre]; rfl
    rw [hx0] at hx
    have hbx := HBY.out x (by rw [hre]; simp)
    have HBX := aM hbx
    obtain ⟨A2, c2, hcut2, hr2, hcc2⟩ := cut_nums_from (P := Try.prog) .u8 22 5 Try.underlying22 HI5.out HSZ5.out HR.out.1 HR.out.2 1 (by omega) (by omega)
    have hd1 : rest.drop (1 : Int).toNat = r0 := by rw [hre]; rfl
    rw [hd1] at hcut2 hr2 hcc2
    have HR2 : Aside0 (Kd.C (Kd.int .u8) w A2 r0.length r0 ∧ r0.length ≤ c2) := ⟨hr2, hcc2⟩
    have HC2 := hcut2
    clear hre hl1 hx0 hbx hr2 hcc2 hd1 hcut2
    replace q0 := eq_true q0
    have q0n : (0 < rest.length) = True := eq_true (by have := HL1.out; omega)
    clear p0
    have hx1 : w1.cell? ad = some (.int .u8 x) := hx
    clear hx
    go_wp2
    have HO1 := aM (Kd.R_drew HO.out)
    have HB1 := aM (below_drew1 HB.out)
    clear HO HB
    have HO := HO1
    have HB := HB1
    clear HO1 HB1
    refine start_ (n := 15) (S := fun w' => w'.cell? ad = some (.int .u8 x)) (ds := []) b80_ (by kernel_rfl) rfl rfl (hx1) (fun hHeld => ?_)
    generalize w1.drew = w24 at HO HB hHeld ⊢
    refine pure_ (i := 0) (N := some 18) (v := ?_) (a' := ?_) b82_ rfl rfl (by kernel_rfl) (fun _ _ _ h => h) (Or.inl ⟨by rfl, ?_⟩) ?_ ?_; rotate_left; (· intro w'; go_simp; with_reducible rfl); rotate_left; (· simp only [xQ, i64_w, i32_w]; rfl)
    refine pure_ (i := 1) (N := some 19) (v := ?_) (a' := ?_) b84_ rfl rfl (by kernel_rfl) (fun _ _ _ h => h) (Or.inl ⟨by rfl, ?_⟩) ?_ ?_; rotate_left; (· intro w'; go_simp; with_reducible rfl); rotate_left; (· simp only [xQ, i64_w, i32_w]; rfl)
    refine pure_ (i := 5) (N := some 23) (v := ?_) (a' := ?_) b85_ rfl rfl (by kernel_rfl) (fun _ _ _ h => h) (Or.inl ⟨by rfl, ?_⟩) ?_ ?_; rotate_left; (· intro w'; go_simp; with_reducible rfl); rotate_left; (· simp only [xQ, i64_w, i32_w]; rfl)
    refine pure_ (i := 6) (N := some 24) (v := ?_) (a' := ?_) b86_ rfl rfl (by kernel_rfl) (fun _ _ _ h => h) (Or.inl ⟨by rfl, ?_⟩) ?_ ?_; rotate_left; (· intro w'; go_simp; with_reducible rfl); rotate_left; (· simp only [xQ, i64_w, i32_w]; rfl)
    refine pure_ (i := 10) (N := some 28) (v := ?_) (a' := ?_) b87_ rfl rfl (by kernel_rfl) (fun _ _ _ h => h) (Or.inl ⟨by rfl, ?_⟩) ?_ ?_; rotate_left; (· intro w'; go_simp; with_reducible rfl); rotate_left; (· simp only [xQ, i64_w, i32_w]; rfl)
    refine pure_ (i := 11) (N := some 29) (v := ?_) (a' := ?_) b88_ rfl rfl (by kernel_rfl) (fun _ _ _ h => h) (Or.inl ⟨by rfl, ?_⟩) ?_ ?_; rotate_left; (· intro w'; go_simp; with_reducible rfl); rotate_left; (· simp only [xQ, i64_w, i32_w]; rfl)
    refine take_ (i := 2) (N := some 20) (v := ?_) (a' := ?_) b93_ rfl rfl (by kernel_rfl) (fun _ _ _ h => h) (Or.inl ⟨by rfl, ?_⟩) hHeld ?_ ?_
    rotate_left
    ·
     intro w' s0
     go_simp
     with_reducible rfl
    rotate_left
    ·
     simp only [xQ, i64_w, i32_w]
     rfl
    refine pure_ (i := 3) (N := some 21) (v := ?_) (a' := ?_) b98_ rfl rfl (by kernel_rfl) (fun _ _ _ h => h) (Or.inl ⟨by rfl, ?_⟩) ?_ ?_; rotate_left; (· intro w'; go_simp; with_reducible rfl); rotate_left; (· simp only [xQ, i64_w, i32_w]; rfl)
    refine pure_ (i := 4) (N := some 22) (v := ?_) (a' := ?_) b101_ rfl rfl (by kernel_rfl) (fun _ _ _ h => h) (Or.inl ⟨by rfl, ?_⟩) ?_ ?_; rotate_left; (· intro w'; go_simp; with_reducible rfl); rotate_left; (· simp only [xQ, i64_w, i32_w]; rfl)
    refine pure_ (i := 12) (N := some 7) (v := ?_) (a' := ?_) b102_ rfl rfl (by kernel_rfl) (fun _ _ _ h => h) (Or.inl ⟨by rfl, ?_⟩) ?_ ?_; rotate_left; (· intro w'; go_simp; with_reducible rfl); rotate_left; (· simp only [xQ, i64_w, i32_w]; rfl)
    refine take_ (i := 7) (N := some 25) (v := ?_) (a' := ?_) b104_ rfl rfl (by kernel_rfl) (fun _ _ _ h => h) (Or.inl ⟨by rfl, ?_⟩) hHeld ?_ ?_
    rotate_left
    ·
     intro w' s0
     go_simp
     with_reducible rfl
    rotate_left
    ·
     simp only [xQ, i64_w, i32_w]
     rfl
    refine pure_ (i := 8) (N := some 26) (v := ?_) (a' := ?_) b106_ rfl rfl (by kernel_rfl) (fun _ _ _ h => h) (Or.inl ⟨by rfl, ?_⟩) ?_ ?_; rotate_left; (· intro w'; go_simp; with_reducible rfl); rotate_left; (· simp only [xQ, i64_w, i32_w]; rfl)
    refine pure_ (i := 9) (N := some 27) (v := ?_) (a' := ?_) b109_ rfl rfl (by kernel_rfl) (fun _ _ _ h => h) (Or.inl ⟨by rfl, ?_⟩) ?_ ?_; rotate_left; (· intro w'; go_simp; with_reducible rfl); rotate_left; (· simp only [xQ, i64_w, i32_w]; rfl)
    refine pure_ (i := 13) (N := some 8) (v := ?_) (a' := ?_) b111_ rfl rfl (by kernel_rfl) (fun _ _ _ h => h) (Or.inl ⟨by rfl, ?_⟩) ?_ ?_; rotate_left; (· intro w'; go_simp; with_reducible rfl); rotate_left; (· simp only [xQ, i64_w, i32_w]; rfl)
    refine pure_ (i := 14) (N := some 10) (v := ?_) (a' := ?_) b112_ rfl rfl (by kernel_rfl) (fun _ _ _ h => h) (Or.inl ⟨by rfl, ?_⟩) ?_ ?_; rotate_left; (· intro w'; go_simp; with_reducible rfl); rotate_left; (· simp only [xQ, i64_w, i32_w]; rfl)
    refine done_ (by kernel_rfl) ?_
    obtain ⟨mm, hmm⟩ : ∃ m, wrap64 (Go.bits .and .u8 x 15) = m := ⟨_, rfl⟩
    obtain ⟨nn, hnn⟩ : ∃ m, wrap64 (x / 16) = m := ⟨_, rfl⟩
    have HMM : Aside0 (mm = x % 16) := ⟨by rw [← hmm, Go.u8_and15 (h₀ := HBX.out.1) (h₁ := HBX.out.2)]; have := HBX.out; unfold wrap64; omega⟩
    have HNN : Aside0 (nn = x / 16) := ⟨by rw [← hnn]; have := HBX.out; unfold wrap64; omega⟩
    rw [hmm, hnn]
    clear hmm hnn
    have HGX : Aside0 (∃ f, r0.length < f ∧ (match lz_Unpack.cnt nn r0 with
     | none => (([] : List Int), (2 : Int))
     | some (n, r1) => if n > a1 - out.length then ([], 5) else if n > r1.length then ([], 2) else
      match r1.drop n.toNat with
      | [] => if mm = 0 then (out ++ r1.take n.toNat, 0) else ([], 2)
      | [_] => ([], 2)
      | a :: b :: r3 => if a + 256 * b = 0 ∨ a + 256 * b > (out ++ r1.take n.toNat).length then ([], 2) else
       match lz_Unpack.cnt mm r3 with
       | none => ([], 2)
       | some (m, r4) => if m + 4 > a1 - (out ++ r1.take n.toNat).length then ([], 5) else lz_Unpack.go a1 f r4 (lz_Unpack.cp (a + 256 * b).toNat (m + 4).toNat (out ++ r1.take n.toNat))) = (r1, r2)) := ⟨by
     obtain ⟨f, hf, he⟩ := HG.out
     obtain ⟨f, rfl⟩ : ∃ g, f = g + 1 := ⟨f - 1, by omega⟩
     refine ⟨f, by have := HL1.out; omega, ?_⟩
     rw [HRE.out, lz_Unpack.go, ← HNN.out, ← HMM.out] at he
     exact he⟩
    clear HG
    have HCL : Aside0 (∀ n r, lz_Unpack.cnt nn r0 = some (n, r) → 0 ≤ n ∧ n ≤ 15 + 255 * ((r0.length : Int) - r.length) ∧ r.length ≤ r0.length ∧ ∀ y ∈ r, 0 ≤ y ∧ y < 256) := ⟨fun n r h => lz_Unpack.cnt_ok (fun y hy => HBY.out y (by rw [HRE.out]; simp [hy])) (by have := HL1.out; have := HN.out; have := HLIM.out; omega) (by have := HNN.out; have := HBX.out; omega) (by have := HNN.out; have := HBX.out; omega) h⟩
    go_upto_if 31 with (fail)
    go_cut [7, 10, 11, 31] from 32 to 39 (fun v7 v10 v11 v31 w' => ∃ (n : Int) (r1 : List Int) (A1 : Option Addr) (c1 : Nat), v7 = .int .i64 n ∧ v10 = .slice A1 r1.length c1 ∧ Aside0 (lz_Unpack.cnt nn r0 = some (n, r1)) ∧ Aside0 (Kd.C (Kd.int .u8) w A1 r1.length r1 ∧ r1.length ≤ c1) ∧ Aside0 (Kd.R (Kd.int .u8) 5 w' w.heap.size (fun _ => True) v6 out) ∧ Aside0 (Below w.heap.size w w'))
    case first =>
     by_cases hn : nn = 15
     ·
      have HN15 := aM hn
      have d30 : (nn == 15) = true := beq_iff_eq.mpr hn
      clear hn
      obtain ⟨cv, cr, ck, hcc⟩ : ∃ cv cr ck, lz_count.c r0 15 = (cv, cr, ck) := ⟨_, _, _, rfl⟩
      have HCC : Aside0 (lz_count.f r0 = some (cv, cr, ck)) := ⟨by unfold lz_count.f; rw [if_pos (by have := HL1.out; have := HN.out; have := HLIM.out; omega), hcc]⟩
      have HCE := aM hcc
      clear hcc
      cases ck with
      | true =>
       go_wp2_with (first | (go_at_call 86; (with_reducible refine (lz_count.calls _ _ r0 cv cr true w _ HB.out HR2.out.1 HR2.out.2 HCC.out).mono ?_); rintro e w3 ⟨A3, c3, rfl, hr3, nd, rfl⟩; have HR3 := aM hr3; clear hr3))
       go_meet
       case rel => exact ⟨cv, cr, A3, c3, rfl, rfl, ⟨by unfold lz_Unpack.cnt; rw [if_pos HN15.out, HCE.out]; rfl⟩, HR3, ⟨Kd.R_drewN HO.out _⟩, ⟨pw_below_drewN HB.out _⟩⟩
      | false =>
       go_wp2_with (first | (go_at_call 86; (with_reducible refine (lz_count.calls _ _ r0 cv cr false w _ HB.out HR2.out.1 HR2.out.2 HCC.out).mono ?_); rintro e w3 ⟨A3, c3, rfl, hr3, nd, rfl⟩; have HR3 := aM hr3; clear hr3))
       have HE : Aside0 ((([] : List Int), (2 : Int)) = (r1, r2)) := ⟨by
        obtain ⟨f, _, he⟩ := HGX.out
        have hc : lz_Unpack.cnt nn r0 = none := by unfold lz_Unpack.cnt; rw [if_pos HN15.out, HCE.out]; rfl
        rw [hc] at he
        exact he⟩
       have he := HE.out
       injection he with h1 h2
       subst h1
       subst h2
       clear HE HGX
       go_step3
       refine wp_mono (c := _) ?_ (fun _ _ _ h => h)
       go_wp2
       (try rw [Exit.noGoto_ret])
       refine bodyPost_ret (v := .tuple #[.slice none 0 0, .int .i64 2]) (by simp [results, Try.results61, go_sem]) rfl ⟨_, rfl, Kd.V_nil _ _ _ _ _, pw_below_drewN HB.out _⟩
     ·
      have HN15 := aM hn
      have d30 : (nn == 15) = false := beq_eq_false_iff_ne.mpr hn
      clear hn
      go_wp2
      go_meet
      case rel => exact ⟨nn, r0, A2, c2, rfl, rfl, ⟨by unfold lz_Unpack.cnt; rw [if_neg HN15.out]⟩, HR2, HO, HB⟩
    case rest =>
     clear HO HB HR2 HR
     obtain ⟨n, rr, A3, c3, rfl, rfl, HCN, HR, HO, HB⟩ := hcut
     have HCB := aM (HCL.out n rr HCN.out)
     clear HCL
     have HGY : Aside0 (∃ f, r0.length < f ∧ (if n > a1 - out.length then (([] : List Int), (5 : Int)) else if n > rr.length then ([], 2) else
      match rr.drop n.toNat with
      | [] => if mm = 0 then (out ++ rr.take n.toNat, 0) else ([], 2)
      | [_] => ([], 2)
      | a :: b :: r3 => if a + 256 * b = 0 ∨ a + 256 * b > (out ++ rr.take n.toNat).length then ([], 2) else
       match lz_Unpack.cnt mm r3 with
       | none => ([], 2)
       | some (m, r4) => if m + 4 > a1 - (out ++ rr.take n.toNat).length then ([], 5) else lz_Unpack.go a1 f r4 (lz_Unpack.cp (a + 256 * b).toNat (m + 4).toNat (out ++ rr.take n.toNat))) = (r1, r2)) := ⟨by
      obtain ⟨f, hf, he⟩ := HGX.out
      rw [HCN.out] at he
      exact ⟨f, hf, he⟩⟩
     clear HGX
     obtain ⟨A6, c6, e6⟩ := Kd.R_slice HO.out
     subst e6
     obtain ⟨dd, hdd⟩ : ∃ d, wrap64 (a1 - (out.length : Int)) = d := ⟨_, rfl⟩
     have HDD : Aside0 (dd = a1 - out.length) := ⟨by rw [← hdd]; have := HA1.out; have := HPOS.out; have := HN.out; unfold wrap64; omega⟩
     have hddw : IntKind.i64.wrap (a1 - (out.length : Int)) = dd := (i64_w _).trans hdd
     by_cases hlong : dd < n
     ·
      have d45 : decide (dd < n) = true := decide_eq_true hlong
      have HE : Aside0 ((([] : List Int), (5 : Int)) = (r1, r2)) := ⟨by
       obtain ⟨f, _, he⟩ := HGY.out
       rw [if_pos (by have := HDD.out; omega)] at he
       exact he⟩
      have he := HE.out
      injection he with h1 h2
      subst h1
      subst h2
      clear HE HGY hlong
      go_wp2
      go_step3
      refine wp_mono (c := _) ?_ (fun _ _ _ h => h)
      go_wp2
      (try rw [Exit.noGoto_ret])
      refine bodyPost_ret (v := .tuple #[.slice none 0 0, .int .i64 5]) (by simp [results, Try.results61, go_sem]) rfl ⟨_, rfl, Kd.V_nil _ _ _ _ _, HB.out⟩
     ·
      have d45 : decide (dd < n) = false := decide_eq_false hlong
      have HNL : Aside0 (n ≤ a1 - out.length) := ⟨by have := HDD.out; omega⟩
      clear hlong
      by_cases hfew : (rr.length : Int) < n
      ·
       have d49 : decide ((rr.length : Int) < n) = true := decide_eq_true hfew
       have HE : Aside0 ((([] : List Int), (2 : Int)) = (r1, r2)) := ⟨by
        obtain ⟨f, _, he⟩ := HGY.out
        rw [if_neg (by have := HNL.out; omega), if_pos (by omega)] at he
        exact he⟩
       have he := HE.out
       injection he with h1 h2
       subst h1
       subst h2
       clear HE HGY hfew
       go_wp2
       go_step3
       refine wp_mono (c := _) ?_ (fun _ _ _ h => h)
       go_wp2
       (try rw [Exit.noGoto_ret])
       refine bodyPost_ret (v := .tuple #[.slice none 0 0, .int .i64 2]) (by simp [results, Try.results61, go_sem]) rfl ⟨_, rfl, Kd.V_nil _ _ _ _ _, HB.out⟩
      ·
       have d49 : decide ((rr.length : Int) < n) = false := decide_eq_false hfew
       have HNF : Aside0 (0 ≤ n ∧ n ≤ (rr.length : Int)) := ⟨by have := HCB.out; omega⟩
       clear hfew
       have g1 := HNF.out.1
       have g2 := HNF.out.2
       have hcutA := cut_to (P := Try.prog) 22 5 .i64 Try.underlying22 HI5.out A3 rr.length c3 n g1 g2 HR.out.2
       have HTK : Aside0 (Kd.C (Kd.int .u8) w A3 (rr.take n.toNat).length (rr.take n.toNat) ∧ (rr.take n.toNat).length = n.toNat) := ⟨Kd.C_take HR.out.1 (by omega), by rw [List.length_take]; omega⟩
       obtain ⟨A7, c7, hcut7, hr7, hcc7⟩ := cut_nums_from (P := Try.prog) .u8 22 5 Try.underlying22 HI5.out HSZ5.out HR.out.1 HR.out.2 n g1 g2
       obtain ⟨y7, hy7⟩ : ∃ y, y = rr.drop n.toNat := ⟨_, rfl⟩
       rw [← hy7] at hcut7 hr7 hcc7
       have HY7 := aM hy7
       have HR7 : Aside0 (Kd.C (Kd.int .u8) w A7 y7.length y7 ∧ y7.length ≤ c7) := ⟨hr7, hcc7⟩
       clear hy7 hr7 hcc7
       replace g1 := eq_true g1
       have g3 := eq_true g2
       clear g2
       go_wp2
       have HO1 := aM (Kd.R_drew HO.out)
       have HB1 := aM (below_drew1 HB.out)
       clear HO HB HR
       refine start_ (n := 10) (S := fun w' => True) (ds := []) b1_ (by kernel_rfl) rfl rfl trivial (fun hHeld => ?_)
       generalize wc.drew = w24 at HO1 HB1 hHeld ⊢
       refine pure_ (i := 0) (N := some 50) (v := ?_) (a' := ?_) b3_ rfl rfl (by kernel_rfl) (fun _ _ _ h => h) (Or.inl ⟨by rfl, ?_⟩) ?_ ?_; rotate_left; (· intro w'; go_simp; with_reducible rfl); rotate_left; (· simp only [xQ, i64_w, i32_w]; rfl)
       refine pure_ (i := 1) (N := some 51) (v := ?_) (a' := ?_) b5_ rfl rfl (by kernel_rfl) (fun _ _ _ h => h) (Or.inl ⟨by rfl, ?_⟩) ?_ ?_; rotate_left; (· intro w'; go_simp; with_reducible rfl); rotate_left; (· simp only [xQ, i64_w, i32_w]; rfl)
       refine pure_ (i := 2) (N := some 52) (v := ?_) (a' := ?_) b8_ rfl rfl (by kernel_rfl) (fun _ _ _ h => h) (Or.inl ⟨by rfl, ?_⟩) ?_ ?_; rotate_left; (· intro w'; go_simp; with_reducible rfl); rotate_left; (· simp only [xQ, i64_w, i32_w]; rfl)
       refine pure_ (i := 3) (N := some 53) (v := ?_) (a' := ?_) b95_ rfl rfl (by kernel_rfl) (fun _ _ _ h => h) (Or.inl ⟨by rfl, ?_⟩) ?_ ?_; rotate_left; (· intro w'; go_simp; with_reducible rfl); rotate_left; (· simp only [xQ, i64_w, i32_w]; rfl)
       refine pure_ (i := 5) (N := some 55) (v := ?_) (a' := ?_) b96_ rfl rfl (by kernel_rfl) (fun _ _ _ h => h) (Or.inl ⟨by rfl, ?_⟩) ?_ ?_; rotate_left; (· intro w'; go_simp; with_reducible rfl); rotate_left; (· simp only [xQ, i64_w, i32_w]; rfl)
       refine pure_ (i := 6) (N := some 56) (v := ?_) (a' := ?_) b97_ rfl rfl (by kernel_rfl) (fun _ _ _ h => h) (Or.inl ⟨by rfl, ?_⟩) ?_ ?_; rotate_left; (· intro w'; go_simp; with_reducible rfl); rotate_left; (· simp only [xQ, i64_w, i32_w]; rfl)
       refine pure_ (i := 7) (N := some 57) (v := ?_) (a' := ?_) b14_ rfl rfl (by kernel_rfl) (fun _ _ _ h => h) (Or.inl ⟨by rfl, ?_⟩) ?_ ?_; rotate_left; (· intro w'; go_simp; with_reducible rfl); rotate_left; (· simp only [xQ, i64_w, i32_w]; rfl)
       refine one_ (i := 4) (N := some 54) b17_ rfl rfl (by kernel_rfl) (by decide) (fun K hK => ?_)
       refine Kd.R_append_rows_step (Kd.int .u8) (w0 := w) w.heap.size (by rfl) (.tmp 50) (.tmp 53) 22 5 (.int .u8 0) 1 rfl Try.underlying22 info5 rfl (by decide) (by omega) (.slice A6 out.length c6) out (rr.take n.toNat) _ _ _ (fun _ => True) (fun _ => False) rfl rfl ?aO ?aR (fun _ _ h => h) (fun _ h => h.elim) ?aF ?aB ?aS ?aL ?_
       (case aR => have hr := Kd.C_below HTK.out.1 HB1.out; rw [HTK.out.2] at hr; exact hr)
       (case aB => exact HB1.out)
       (case aF => exact (fun _ _ => trivial))
       (case aO => exact HO1.out)
       (case aS => exact below_size HB1.out)
       (case aL => have := HN.out; have := HLIM.out; have := HNF.out; have := HCB.out; have := HL1.out; omega)
       intro v54 w54 ho hb hg hat
       have HO := aM ho
       have HB := aM hb
       have HR := HR7
       clear HR7 ho hb hat hg
       refine hK.out _ _ trivial (fun hHeld => ?_)
       clear hK K
       refine norm_ (a' := ?_) ?_ ?_
       rotate_left
       ·
        show Act.put _ (some 54) _ = _
        simp only [xQ, i64_w, i32_w]
        rfl
       refine pure_ (i := 8) (N := some 6) (v := ?_) (a' := ?_) b19_ rfl rfl (by kernel_rfl) (fun _ _ _ h => h) (Or.inl ⟨by rfl, ?_⟩) ?_ ?_; rotate_left; (· intro w'; go_simp; with_reducible rfl); rotate_left; (· simp only [xQ, i64_w, i32_w]; rfl)
       refine pure_ (i := 9) (N := some 10) (v := ?_) (a' := ?_) b20_ rfl rfl (by kernel_rfl) (fun _ _ _ h => h) (Or.inl ⟨by rfl, ?_⟩) ?_ ?_; rotate_left; (· intro w'; go_simp; with_reducible rfl); rotate_left; (· simp only [xQ, i64_w, i32_w]; rfl)
       refine done_ (by kernel_rfl) ?_
       have HGZ : Aside0 (∃ f, r0.length < f ∧ (match (generalizing := false) y7 with
        | [] => if mm = 0 then (out ++ rr.take n.toNat, 0) else ([], 2)
        | [_] => ([], 2)
        | a :: b :: r3 => if a + 256 * b = 0 ∨ a + 256 * b > (out ++ rr.take n.toNat).length then ([], 2) else
         match lz_Unpack.cnt mm r3 with
         | none => ([], 2)
         | some (m, r4) => if m + 4 > a1 - (out ++ rr.take n.toNat).length then ([], 5) else lz_Unpack.go a1 f r4 (lz_Unpack.cp (a + 256 * b).toNat (m + 4).toNat (out ++ rr.take n.toNat))) = (r1, r2)) := ⟨by
        obtain ⟨f, hf, he⟩ := HGY.out
        rw [if_neg (by have := HNL.out; omega), if_neg (by have := HNF.out; omega), ← HY7.out] at he
        exact ⟨f, hf, he⟩⟩
       clear HGY
       have HOL : Aside0 ((out ++ rr.take n.toNat).length = out.length + n.toNat) := ⟨by rw [List.length_append, HTK.out.2]⟩
       obtain ⟨o1, ho1⟩ : ∃ o, o = out ++ rr.take n.toNat := ⟨_, rfl⟩
       rw [← ho1] at HO HGZ HOL
       have HO1E := aM ho1
       clear ho1
       have HYL : Aside0 (y7.length = rr.length - n.toNat) := ⟨by rw [HY7.out, List.length_drop]⟩
       have HYB : Aside0 (∀ y ∈ y7, 0 ≤ y ∧ y < 256) := ⟨fun y hy => HCB.out.2.2.2 y (by rw [HY7.out] at hy; exact List.mem_of_mem_drop hy)⟩
       obtain ⟨A8, c8, e8⟩ := Kd.R_slice HO.out
       subst e8
       rcases hy : y7 with _ | ⟨a, _ | ⟨b, r3⟩⟩
       ·
        subst hy
        have d60 : ((([] : List Int).length : Int) == 0) = true := rfl
        by_cases hm0 : mm = 0
        ·
         have d62 : (mm != 0) = false := bne_eq_false_iff_eq.mpr hm0
         have HE : Aside0 ((o1, (0 : Int)) = (r1, r2)) := ⟨by
          obtain ⟨f, _, he⟩ := HGZ.out
          rw [if_pos hm0] at he
          exact he⟩
         have he := HE.out
         injection he with h1 h2
         subst h1
         subst h2
         clear HE HGZ hm0
         have HLE : Aside0 (o1.length ≤ c8) := ⟨(Kd.R_reads' HO.out).2.1⟩
         have HVV : Aside0 (Kd.V (Kd.int .u8) 5 w54 w.heap.size (fun k_ => w.heap.size ≤ k_) (.slice A8 o1.length o1.length) o1) := ⟨Kd.V_mk (Nat.le_refl _) (Kd.R_F (Kd.R_mono (Kd.R_bound HO.out) (fun k hk => hk.2.1)))⟩
         go_wp2_with (first | (go_at_call 87; (with_reducible refine (slices_Clip_byte_byte.calls A8 o1.length c8 _ HLE.out).mono ?_); rintro e w3 ⟨rfl, rfl⟩))
         rw [jumps3_ret]
         refine bodyPost_ret (v := .tuple #[.slice A8 o1.length o1.length, .int .i64 0]) (by simp [results, Try.results61, go_sem]) rfl ⟨_, rfl, HVV.out, HB.out⟩
        ·
         have d62 : (mm != 0) = true := bne_iff_ne.mpr hm0
         have HE : Aside0 ((([] : List Int), (2 : Int)) = (r1, r2)) := ⟨by
          obtain ⟨f, _, he⟩ := HGZ.out
          rw [if_neg hm0] at he
          exact he⟩
         clear hm0
         have he := HE.out
         injection he with h1 h2
         subst h1
         subst h2
         clear HE HGZ
         go_wp2
         go_step3
         refine wp_mono (c := _) ?_ (fun _ _ _ h => h)
         go_wp2
         (try rw [Exit.noGoto_ret])
         refine bodyPost_ret (v := .tuple #[.slice none 0 0, .int .i64 2]) (by simp [results, Try.results61, go_sem]) rfl ⟨_, rfl, Kd.V_nil _ _ _ _ _, HB.out⟩
       ·
        subst hy
        have d60 : ((([a] : List Int).length : Int) == 0) = false := rfl
        have d67 : decide ((([a] : List Int).length : Int) < 2) = true := rfl
        have HE : Aside0 ((([] : List Int), (2 : Int)) = (r1, r2)) := ⟨by
         obtain ⟨f, _, he⟩ := HGZ.out
         exact he⟩
        have he := HE.out
        injection he with h1 h2
        subst h1
        subst h2
        clear HE HGZ
        go_wp2
        go_step3
        refine wp_mono (c := _) ?_ (fun _ _ _ h => h)
        go_wp2
        (try rw [Exit.noGoto_ret])
        refine bodyPost_ret (v := .tuple #[.slice none 0 0, .int .i64 2]) (by simp [results, Try.results61, go_sem]) rfl ⟨_, rfl, Kd.V_nil _ _ _ _ _, HB.out⟩
       ·
        have HYE := aM hy
        rw [← hy]
        have hyl : y7.length = r3.length + 2 := by rw [hy]; rfl
        have HYL2 := aM hyl
        have d60 : ((y7.length : Int) == 0) = false := beq_eq_false_iff_ne.mpr (by omega)
        have d60n : (y7.length == 0) = false := beq_eq_false_iff_ne.mpr (by omega)
        have d67 : decide ((y7.length : Int) < 2) = false := decide_eq_false (by omega)
        have d67n : decide (y7.length < 2) = false := decide_eq_false (by omega)
        have hba := HYB.out a (by rw [hy]; simp)
        have hbb := HYB.out b (by rw [hy]; simp)
        have HBA := aM hba
        have HBB := aM hbb
        obtain ⟨a7, hA, hxa⟩ := Kd.at_int (Kd.C_below HR.out.1 HB.out) 0 (Int.le_refl 0) (by omega)
        subst hA
        obtain ⟨a7', hA, hxb⟩ := Kd.at_int (Kd.C_below HR.out.1 HB.out) 1 (by omega) (by omega)
        injection hA with hA
        subst hA
        have hra : rd y7 0 = a := by rw [hy]; rfl
        have hrb : rd y7 1 = b := by rw [hy]; rfl
        rw [hra] at hxa
        rw [hrb] at hxb
        have hxa1 : w54.cell? a7 = some (.int .u8 a) := hxa
        have hxb1 : w54.cell? ⟨a7.block, a7.off + 1, none⟩ = some (.int .u8 b) := by
         have e := add_field a7 0 1 (by omega)
         exact (congrArg w54.cell? e).symm.trans hxb
        obtain ⟨A9, c9, hcut9, hr9, hcc9⟩ := cut_nums_from (P := Try.prog) .u8 22 5 Try.underlying22 HI5.out HSZ5.out HR.out.1 HR.out.2 2 (by omega) (by omega)
        have hd2 : y7.drop (2 : Int).toNat = r3 := by rw [hy]; rfl
        rw [hd2] at hcut9 hr9 hcc9
        have HR9 : Aside0 (Kd.C (Kd.int .u8) w A9 r3.length r3 ∧ r3.length ≤ c9) := ⟨hr9, hcc9⟩
        have q0 : ((0 : Int) < (y7.length : Int)) = True := eq_true (by omega)
        have q0n : (0 < y7.length) = True := eq_true (by omega)
        have q1 : ((1 : Int) < (y7.length : Int)) = True := eq_true (by omega)
        have q1n : (1 < y7.length) = True := eq_true (by omega)
        clear hy hyl hba hbb hxa hxb hra hrb hd2 hr9 hcc9
        go_wp2
        have HO1 := aM (Kd.R_drew HO.out)
        have HB1 := aM (below_drew1 HB.out)
        clear HO HB
        have HO := HO1
        have HB := HB1
        clear HO1 HB1
        refine start_ (n := 14) (S := fun w' => w'.cell? a7 = some (.int .u8 a) ∧ w'.cell? ⟨a7.block, a7.off + 1, none⟩ = some (.int .u8 b)) (ds := []) b79_ (by kernel_rfl) rfl rfl ⟨hxa1, hxb1⟩ (fun hHeld => ?_)
        generalize w54.drew = w55 at HO HB hHeld ⊢
        refine pure_ (i := 0) (N := some 68) (v := ?_) (a' := ?_) b81_ rfl rfl (by kernel_rfl) (fun _ _ _ h => h) (Or.inl ⟨by rfl, ?_⟩) ?_ ?_; rotate_left; (· intro w'; go_simp; with_reducible rfl); rotate_left; (· simp only [xQ, i64_w, i32_w]; rfl)
        refine pure_ (i := 1) (N := some 69) (v := ?_) (a' := ?_) b83_ rfl rfl (by kernel_rfl) (fun _ _ _ h => h) (Or.inl ⟨by rfl, ?_⟩) ?_ ?_; rotate_left; (· intro w'; go_simp; with_reducible rfl); rotate_left; (· simp only [xQ, i64_w, i32_w]; rfl)
        refine pure_ (i := 4) (N := some 72) (v := ?_) (a' := ?_) b89_ rfl rfl (by kernel_rfl) (fun _ _ _ h => h) (Or.inl ⟨by rfl, ?_⟩) ?_ ?_; rotate_left; (· intro w'; go_simp; with_reducible rfl); rotate_left; (· simp only [xQ, i64_w, i32_w]; rfl)
        refine pure_ (i := 5) (N := some 73) (v := ?_) (a' := ?_) b90_ rfl rfl (by kernel_rfl) (fun _ _ _ h => h) (Or.inl ⟨by rfl, ?_⟩) ?_ ?_; rotate_left; (· intro w'; go_simp; with_reducible rfl); rotate_left; (· simp only [xQ, i64_w, i32_w]; rfl)
        refine pure_ (i := 10) (N := some 78) (v := ?_) (a' := ?_) b91_ rfl rfl (by kernel_rfl) (fun _ _ _ h => h) (Or.inl ⟨by rfl, ?_⟩) ?_ ?_; rotate_left; (· intro w'; go_simp; with_reducible rfl); rotate_left; (· simp only [xQ, i64_w, i32_w]; rfl)
        refine pure_ (i := 11) (N := some 79) (v := ?_) (a' := ?_) b92_ rfl rfl (by kernel_rfl) (fun _ _ _ h => h) (Or.inl ⟨by rfl, ?_⟩) ?_ ?_; rotate_left; (· intro w'; go_simp; with_reducible rfl); rotate_left; (· simp only [xQ, i64_w, i32_w]; rfl)
        refine take_ (i := 2) (N := some 70) (v := ?_) (a' := ?_) b94_ rfl rfl (by kernel_rfl) (fun _ _ _ h => h) (Or.inl ⟨by rfl, ?_⟩) hHeld ?_ ?_; rotate_left; (· rintro w' ⟨s0, s1⟩; go_simp; with_reducible rfl); rotate_left; (· simp only [xQ, i64_w, i32_w]; rfl)
        refine pure_ (i := 3) (N := some 71) (v := ?_) (a' := ?_) b99_ rfl rfl (by kernel_rfl) (fun _ _ _ h => h) (Or.inl ⟨by rfl, ?_⟩) ?_ ?_; rotate_left; (· intro w'; go_simp; with_reducible rfl); rotate_left; (· simp only [xQ, i64_w, i32_w]; rfl)
        refine take_ (i := 6) (N := some 74) (v := ?_) (a' := ?_) b100_ rfl rfl (by kernel_rfl) (fun _ _ _ h => h) (Or.inl ⟨by rfl, ?_⟩) hHeld ?_ ?_; rotate_left; (· rintro w' ⟨s0, s1⟩; go_simp; with_reducible rfl); rotate_left; (· simp only [xQ, i64_w, i32_w]; rfl)
        refine pure_ (i := 7) (N := some 75) (v := ?_) (a' := ?_) b103_ rfl rfl (by kernel_rfl) (fun _ _ _ h => h) (Or.inl ⟨by rfl, ?_⟩) ?_ ?_; rotate_left; (· intro w'; go_simp; with_reducible rfl); rotate_left; (· simp only [xQ, i64_w, i32_w]; rfl)
        refine pure_ (i := 8) (N := some 76) (v := ?_) (a' := ?_) b105_ rfl rfl (by kernel_rfl) (fun _ _ _ h => h) (Or.inl ⟨by rfl, ?_⟩) ?_ ?_; rotate_left; (· intro w'; go_simp; with_reducible rfl); rotate_left; (· simp only [xQ, i64_w, i32_w]; rfl)
        refine pure_ (i := 9) (N := some 77) (v := ?_) (a' := ?_) b107_ rfl rfl (by kernel_rfl) (fun _ _ _ h => h) (Or.inl ⟨by rfl, ?_⟩) ?_ ?_; rotate_left; (· intro w'; go_simp; with_reducible rfl); rotate_left; (· simp only [xQ, i64_w, i32_w]; rfl)
        refine pure_ (i := 12) (N := some 9) (v := ?_) (a' := ?_) b108_ rfl rfl (by kernel_rfl) (fun _ _ _ h => h) (Or.inl ⟨by rfl, ?_⟩) ?_ ?_; rotate_left; (· intro w'; go_simp; with_reducible rfl); rotate_left; (· simp only [xQ, i64_w, i32_w]; rfl)
        refine pure_ (i := 13) (N := some 10) (v := ?_) (a' := ?_) b110_ rfl rfl (by kernel_rfl) (fun _ _ _ h => h) (Or.inl ⟨by rfl, ?_⟩) ?_ ?_; rotate_left; (· intro w'; go_simp; with_reducible rfl); rotate_left; (· simp only [xQ, i64_w, i32_w]; rfl)
        refine done_ (by kernel_rfl) ?_
        obtain ⟨ds, hds⟩ : ∃ d, Go.bits .or .i64 (wrap64 a) (wrap64 (wrap64 b * 256)) = d := ⟨_, rfl⟩
        have HDS : Aside0 (ds = a + 256 * b) := ⟨by rw [← hds]; exact lz_Unpack.or2 a b HBA.out.1 HBA.out.2 HBB.out.1 HBB.out.2⟩
        rw [hds]
        clear hds
        have HGW : Aside0 (∃ f, r0.length < f ∧ (if ds = 0 ∨ ds > o1.length then (([] : List Int), (2 : Int)) else
          match lz_Unpack.cnt mm r3 with
          | none => ([], 2)
          | some (m, r4) => if m + 4 > a1 - o1.length then ([], 5) else lz_Unpack.go a1 f r4 (lz_Unpack.cp ds.toNat (m + 4).toNat o1)) = (r1, r2)) := ⟨by
         obtain ⟨f, hf, he⟩ := HGZ.out
         rw [HYE.out] at he
         rw [HDS.out]
         exact ⟨f, hf, he⟩⟩
        clear HGZ
        by_cases hd0 : ds = 0
        ·
         have d81 : (ds == 0) = true := beq_iff_eq.mpr hd0
         have HE : Aside0 ((([] : List Int), (2 : Int)) = (r1, r2)) := ⟨by
          obtain ⟨f, _, he⟩ := HGW.out
          rw [if_pos (.inl hd0)] at he
          exact he⟩
         clear hd0
         have he := HE.out
         injection he with h1 h2
         subst h1
         subst h2
         clear HE HGW
         go_wp2
         go_step3
         refine wp_mono (c := _) ?_ (fun _ _ _ h => h)
         go_wp2
         (try rw [Exit.noGoto_ret])
         refine bodyPost_ret (v := .tuple #[.slice none 0 0, .int .i64 2]) (by simp [results, Try.results61, go_sem]) rfl ⟨_, rfl, Kd.V_nil _ _ _ _ _, HB.out⟩
        have d81 : (ds == 0) = false := beq_eq_false_iff_ne.mpr hd0
        have HD0 := aM hd0
        clear hd0
        by_cases hdl : (o1.length : Int) < ds
        ·
         have d86 : decide ((o1.length : Int) < ds) = true := decide_eq_true hdl
         have HE : Aside0 ((([] : List Int), (2 : Int)) = (r1, r2)) := ⟨by
          obtain ⟨f, _, he⟩ := HGW.out
          rw [if_pos (.inr hdl)] at he
          exact he⟩
         clear hdl
         have he := HE.out
         injection he with h1 h2
         subst h1
         subst h2
         clear HE HGW
         go_wp2
         go_step3
         refine wp_mono (c := _) ?_ (fun _ _ _ h => h)
         go_wp2
         (try rw [Exit.noGoto_ret])
         refine bodyPost_ret (v := .tuple #[.slice none 0 0, .int .i64 2]) (by simp [results, Try.results61, go_sem]) rfl ⟨_, rfl, Kd.V_nil _ _ _ _ _, HB.out⟩
        have d86 : decide ((o1.length : Int) < ds) = false := decide_eq_false hdl
        have HDL : Aside0 (0 < ds ∧ ds ≤ (o1.length : Int)) := ⟨by have := HD0.out; have := HDS.out; have := HBA.out; have := HBB.out; omega⟩
        have HGV : Aside0 (∃ f, r0.length < f ∧ (match lz_Unpack.cnt mm r3 with
          | none => (([] : List Int), (2 : Int))
          | some (m, r4) => if m + 4 > a1 - o1.length then ([], 5) else lz_Unpack.go a1 f r4 (lz_Unpack.cp ds.toNat (m + 4).toNat o1)) = (r1, r2)) := ⟨by
         obtain ⟨f, hf, he⟩ := HGW.out
         rw [if_neg (by rintro (h | h); exact HD0.out h; exact hdl h)] at he
         exact ⟨f, hf, he⟩⟩
        clear HGW hdl
        have HCM : Aside0 (∀ n r, lz_Unpack.cnt mm r3 = some (n, r) → 0 ≤ n ∧ n ≤ 15 + 255 * ((r3.length : Int) - r.length) ∧ r.length ≤ r3.length ∧ ∀ y ∈ r, 0 ≤ y ∧ y < 256) := ⟨fun n r h => lz_Unpack.cnt_ok (fun y hy => HYB.out y (by rw [HYE.out]; simp [hy])) (by have := HYL2.out; have := HYL.out; have := HCB.out; have := HL1.out; have := HN.out; have := HLIM.out; omega) (by have := HMM.out; have := HBX.out; omega) (by have := HMM.out; have := HBX.out; omega) h⟩
        go_upto_if 89 with (fail)
        go_cut [8, 10, 11, 89] from 90 to 97 (fun v8 v10 v11 v89 w' => ∃ (m : Int) (r4 : List Int) (A1 : Option Addr) (c1 : Nat), v8 = .int .i64 m ∧ v10 = .slice A1 r4.length c1 ∧ Aside0 (lz_Unpack.cnt mm r3 = some (m, r4)) ∧ Aside0 (Kd.C (Kd.int .u8) w A1 r4.length r4 ∧ r4.length ≤ c1) ∧ Aside0 (Kd.R (Kd.int .u8) 5 w' w.heap.size (fun _ => True) (.slice A8 o1.length c8) o1) ∧ Aside0 (Below w.heap.size w w'))
        case first =>
         by_cases hn : mm = 15
         ·
          have HN15 := aM hn
          have d30 : (mm == 15) = true := beq_iff_eq.mpr hn
          clear hn
          obtain ⟨cv, cr, ck, hcc⟩ : ∃ cv cr ck, lz_count.c r3 15 = (cv, cr, ck) := ⟨_, _, _, rfl⟩
          have HCC : Aside0 (lz_count.f r3 = some (cv, cr, ck)) := ⟨by unfold lz_count.f; rw [if_pos (by have := HYL2.out; have := HYL.out; have := HCB.out; have := HL1.out; have := HN.out; have := HLIM.out; omega), hcc]⟩
          have HCE := aM hcc
          clear hcc
          cases ck with
          | true =>
           go_wp2_with (first | (go_at_call 86; (with_reducible refine (lz_count.calls _ _ r3 cv cr true w _ HB.out HR9.out.1 HR9.out.2 HCC.out).mono ?_); rintro e w3 ⟨A3, c3, rfl, hr3, nd, rfl⟩; have HR3 := aM hr3; clear hr3))
           go_meet
           case rel => exact ⟨cv, cr, A3, c3, rfl, rfl, ⟨by unfold lz_Unpack.cnt; rw [if_pos HN15.out, HCE.out]; rfl⟩, HR3, ⟨Kd.R_drewN HO.out _⟩, ⟨pw_below_drewN HB.out _⟩⟩
          | false =>
           go_wp2_with (first | (go_at_call 86; (with_reducible refine (lz_count.calls _ _ r3 cv cr false w _ HB.out HR9.out.1 HR9.out.2 HCC.out).mono ?_); rintro e w3 ⟨A3, c3, rfl, hr3, nd, rfl⟩; have HR3 := aM hr3; clear hr3))
           have HE : Aside0 ((([] : List Int), (2 : Int)) = (r1, r2)) := ⟨by
            obtain ⟨f, _, he⟩ := HGV.out
            have hc : lz_Unpack.cnt mm r3 = none := by unfold lz_Unpack.cnt; rw [if_pos HN15.out, HCE.out]; rfl
            rw [hc] at he
            exact he⟩
           have he := HE.out
           injection he with h1 h2
           subst h1
           subst h2
           clear HE HGV
           go_step3
           refine wp_mono (c := _) ?_ (fun _ _ _ h => h)
           go_wp2
           (try rw [Exit.noGoto_ret])
           refine bodyPost_ret (v := .tuple #[.slice none 0 0, .int .i64 2]) (by simp [results, Try.results61, go_sem]) rfl ⟨_, rfl, Kd.V_nil _ _ _ _ _, pw_below_drewN HB.out _⟩
         ·
          have HN15 := aM hn
          have d30 : (mm == 15) = false := beq_eq_false_iff_ne.mpr hn
          clear hn
          go_wp2
          go_meet
          case rel => exact ⟨mm, r3, A9, c9, rfl, rfl, ⟨by unfold lz_Unpack.cnt; rw [if_neg HN15.out]⟩, HR9, HO, HB⟩
        case rest =>
         clear HO HB HR9 HR
         obtain ⟨m, r4, A10, c10, rfl, rfl, HCN2, HR, HO, HB⟩ := hcut
         have HCB2 := aM (HCM.out m r4 HCN2.out)
         clear HCM
         have HGU : Aside0 (∃ f, r0.length < f ∧ (if m + 4 > a1 - o1.length then (([] : List Int), (5 : Int)) else lz_Unpack.go a1 f r4 (lz_Unpack.cp ds.toNat (m + 4).toNat o1)) = (r1, r2)) := ⟨by
          obtain ⟨f, hf, he⟩ := HGV.out
          rw [HCN2.out] at he
          exact ⟨f, hf, he⟩⟩
         clear HGV
         have HSZ : Aside0 (r4.length < r0.length ∧ r0.length < rest.length ∧ m + 4 < 100000000000000 ∧ 0 ≤ m ∧ (o1.length : Int) ≤ a1 ∧ (o1.length : Int) + (m + 4) + 300 * r4.length ≤ 300 * l0.length) := ⟨by
          have := HYL2.out
          have := HYL.out
          have := HCB.out
          have := HCB2.out
          have := HL1.out
          have := HN.out
          have := HLIM.out
          have := HNF.out
          have := HNL.out
          have := HOL.out
          omega⟩
         obtain ⟨dd2, hdd2⟩ : ∃ d, wrap64 (a1 - (o1.length : Int)) = d := ⟨_, rfl⟩
         have HDD2 : Aside0 (dd2 = a1 - o1.length) := ⟨by rw [← hdd2]; have := HA1.out; have := HPOS.out; have := HSZ.out; unfold wrap64; omega⟩
         have hddw2 : IntKind.i64.wrap (a1 - (o1.length : Int)) = dd2 := (i64_w _).trans hdd2
         obtain ⟨m4, hm4⟩ : ∃ d, wrap64 (m + 4) = d := ⟨_, rfl⟩
         have HM4 : Aside0 (m4 = m + 4) := ⟨by rw [← hm4]; have := HSZ.out; unfold wrap64; omega⟩
         have hm4w : IntKind.i64.wrap (m + 4) = m4 := (i64_w _).trans hm4
         by_cases hlong : dd2 < m4
         ·
          have d45b : decide (dd2 < m4) = true := decide_eq_true hlong
          have HE : Aside0 ((([] : List Int), (5 : Int)) = (r1, r2)) := ⟨by
           obtain ⟨f, _, he⟩ := HGU.out
           rw [if_pos (by have := HDD2.out; have := HM4.out; omega)] at he
           exact he⟩
          clear hlong
          have he := HE.out
          injection he with h1 h2
          subst h1
          subst h2
          clear HE HGU
          go_wp2
          go_step3
          refine wp_mono (c := _) ?_ (fun _ _ _ h => h)
          go_wp2
          (try rw [Exit.noGoto_ret])
          refine bodyPost_ret (v := .tuple #[.slice none 0 0, .int .i64 5]) (by simp [results, Try.results61, go_sem]) rfl ⟨_, rfl, Kd.V_nil _ _ _ _ _, HB.out⟩
         have d45b : decide (dd2 < m4) = false := decide_eq_false hlong
         have HNL2 : Aside0 (m4 ≤ a1 - o1.length) := ⟨by have := HDD2.out; omega⟩
         clear hlong
         have HGT : Aside0 (∃ f, r0.length < f ∧ lz_Unpack.go a1 f r4 (lz_Unpack.cp ds.toNat m4.toNat o1) = (r1, r2)) := ⟨by
          obtain ⟨f, hf, he⟩ := HGU.out
          rw [if_neg (by have := HNL2.out; have := HM4.out; omega), ← HM4.out] at he
          exact ⟨f, hf, he⟩⟩
         clear HGU
         go_wp2
         go_loopg [6, 7] m4.toNat (fun kq v6 v7 w' => ∃ (o : List Int) (q : Int), v7 = .int .i64 q ∧ Aside0 (0 ≤ q ∧ (kq : Int) = q ∧ q ≤ m4) ∧ Aside0 (lz_Unpack.cp ds.toNat kq o = lz_Unpack.cp ds.toNat m4.toNat o1) ∧ Aside0 ((o.length : Int) + q = o1.length + m4) ∧ Aside0 (Kd.R (Kd.int .u8) 5 w' w.heap.size (fun _ => True) v6 o) ∧ Aside0 (Below w.heap.size w w'))
         case atStart => exact ⟨o1, m4, rfl, ⟨by have := HM4.out; have := HSZ.out; omega⟩, ⟨rfl⟩, ⟨rfl⟩, HO, HB⟩
         case round =>
          clear HO HB
          obtain ⟨o, q, rfl, HQ, HCP, HOQ, HO, HB⟩ := hrel
          obtain ⟨A11, c11, e11⟩ := Kd.R_slice HO.out
          subst e11
          cases gk with
          | zero =>
           have hq0 : q = 0 := by have := HQ.out; omega
           subst hq0
           have HCP2 : Aside0 (lz_Unpack.cp ds.toNat m4.toNat o1 = o) := ⟨HCP.out.symm⟩
           have HFN : Aside0 (∃ f, r4.length < f ∧ lz_Unpack.go a1 f r4 o = (r1, r2)) := ⟨by
            obtain ⟨f, hf, he⟩ := HGT.out
            rw [HCP2.out] at he
            exact ⟨f, by have := HSZ.out; omega, he⟩⟩
           go_wp2
           go_step3
           refine And.intro ⟨r4, o, A10, c10, _, HFN, ⟨by have := HSZ.out; have := HN.out; omega, by have := HOQ.out; have := HNL2.out; omega, by have := HOQ.out; have := HSZ.out; have := HM4.out; omega⟩, ⟨HCB2.out.2.2.2⟩, HR, HO, HB, rfl, rfl, rfl, rfl, rfl, rfl⟩ ?_
           show r4.length < rest.length
           have := HSZ.out
           omega
          | succ k1 =>
           have d108 : decide (0 < q) = true := decide_eq_true (by have := HQ.out; omega)
           obtain ⟨jx, hjx⟩ : ∃ d, wrap64 ((o.length : Int) - ds) = d := ⟨_, rfl⟩
           have HJX : Aside0 (jx = o.length - ds) := ⟨by rw [← hjx]; have := HDL.out; have := HOQ.out; have := HSZ.out; have := HM4.out; have := HQ.out; have := HLIM.out; have := HN.out; unfold wrap64; omega⟩
           have hjxw : IntKind.i64.wrap ((o.length : Int) - ds) = jx := (i64_w _).trans hjx
           have hJ1 : 0 ≤ jx := by have := HJX.out; have := HDL.out; have := HOQ.out; have := HM4.out; have := HQ.out; omega
           have hJ2 : jx < (o.length : Int) := by have := HJX.out; have := HDL.out; omega
           obtain ⟨a11, hA, hx11⟩ := Kd.at_int (Kd.R_reads' HO.out).2.2 jx hJ1 hJ2
           subst hA
           obtain ⟨xv, hxv⟩ : ∃ v, rd o jx = v := ⟨_, rfl⟩
           have HXV : Aside0 (xv = rd o ((o.length - ds.toNat : Nat) : Int)) := ⟨by rw [← hxv]; congr 1; have := HJX.out; have := HDL.out; omega⟩
           rw [hxv] at hx11
           clear hxv
           replace hJ1 := eq_true hJ1
           replace hJ2 := eq_true hJ2
           go_wp2_with (first | ((with_reducible refine gate_builtin (b := .append) (xs := #[.tmp 111, .tmp 119]) rfl ?_); at_builtin; refine Kd.R_append (Kd.int .u8) (w0 := w) w.heap.size rfl (.tmp 111) (.tmp 119) 22 5 (.int .u8 0) 1 rfl Try.underlying22 info5 rfl (by decide) (by omega) (.slice (some a11) o.length c11) o xv [.int .u8 xv] (fun _ => True) (fun _ => False) rfl rfl ?aP (fun _ hk => hk.elim) ?aF ?aO ?aB ?aS ?aL ?_; (case aP => exact rfl); (case aF => exact (fun _ _ => trivial)); (case aO => exact HO.out); (case aB => exact HB.out); (case aS => exact below_size HB.out); (case aL => have := HOQ.out; have := HSZ.out; have := HM4.out; have := HQ.out; have := HLIM.out; omega); intro v120 w120 ho hb hg hat; have HO2 := aM ho; have HB2 := aM hb; clear ho hb hg hat))
           go_roundg k1
           case measure => omega
           case rel =>
            have hq := HQ.out
            have hw : wrap64 (q - 1) = q - 1 := by have := HSZ.out; have := HM4.out; have := HOQ.out; unfold wrap64; omega
            refine ⟨o ++ [xv], q - 1, by rw [hw], ⟨by omega⟩, ⟨?_⟩, ⟨?_⟩, HO2, HB2⟩
            · rw [← HCP.out, lz_Unpack.cp, HXV.out]
            ·
             have := HOQ.out
             rw [List.length_append]
             simp only [List.length_singleton]
             omega
end Go.Proofs.Ythaifibhflfpkaa.Q
end
section
namespace Go.Proofs.Ythaifibhflfpkaa.Q
open Go.RowKit Go.Proofs.YthaifibhflfpkaaW.PrintWords Go.Proofs.YthaifibhflfpkaaW.PrintLast Go.Proofs.YthaifibhflfpkaaW.PrintMore Go.Proofs.YthaifibhflfpkaaX
namespace Law
theorem c_lay : ∀ (q n acc : Nat) (rest : List Int), n / 255 = q → acc + n < 1000000000000 → lz_count.c (lz_Pack.layT n ++ rest) (acc : Int) = (((acc + n : Nat) : Int), rest, true)
  | 0, n, acc, rest, hq, hn => by
    have e : lz_Pack.layT n ++ rest = ((n % 255 : Nat) : Int) :: rest := by
      unfold lz_Pack.layT
      rw [hq]
      rfl
    have w1 := Lib.hid (w64_nat ((n % 255 : Nat) : Int) n (by omega) (by omega))
    have w2 := Lib.hid (w64_add acc n (by omega) (by omega))
    rw [e, lz_count.c, if_neg (by omega), w1.out, w2.out]
  | q + 1, n, acc, rest, hq, hn => by
    have e : lz_Pack.layT n ++ rest = 255 :: (lz_Pack.layT (n - 255) ++ rest) := by
      unfold lz_Pack.layT
      rw [show n / 255 = (n - 255) / 255 + 1 by omega, List.replicate_succ, show (n - 255) % 255 = n % 255 by omega]
      rfl
    have w1 := Lib.hid (w64_nat (255 : Int) 255 rfl (by omega))
    have w2 := Lib.hid (w64_add acc 255 (by omega) (by omega))
    rw [e, lz_count.c, if_pos rfl, w1.out, w2.out, c_lay q (n - 255) (acc + 255) rest (by omega) (by omega), show acc + 255 + (n - 255) = acc + n by omega]
theorem cnt_lay (n : Nat) (hn : n < 100000000000) (rest : List Int) : lz_Unpack.cnt ((min n 15 : Nat) : Int) ((if 15 ≤ n then lz_Pack.layT (n - 15) else []) ++ rest) = some ((n : Int), rest) := by
  unfold lz_Unpack.cnt
  by_cases h : 15 ≤ n
  · have hc := c_lay ((n - 15) / 255) (n - 15) 15 rest rfl (by omega)
    rw [if_pos (by omega), if_pos h, show (15 : Int) = ((15 : Nat) : Int) by rfl, hc]
    simp only [if_true]
    rw [show 15 + (n - 15) = n by omega]
  · rw [if_neg (by omega), if_neg h, List.nil_append, show min n 15 = n by omega]
theorem un_last (most x : Int) (f : Nat) (r0 r1 out : List Int) (hc : lz_Unpack.cnt (x / 16) r0 = some ((r1.length : Int), r1)) (h1 : (out.length : Int) + r1.length ≤ most) (hx : x % 16 = 0) : lz_Unpack.go most (f + 1) (x :: r0) out = (out ++ r1, 0) := by
  rw [lz_Unpack.go.eq_def]
  simp only
  rw [hc]
  simp only
  rw [if_neg (by omega), if_neg (by omega), Int.toNat_natCast, List.drop_length, List.take_length]
  simp only
  rw [if_pos hx]
theorem un_part (most x : Int) (f : Nat) (r0 lits r3 r4 out : List Int) (a b : Int) (d m : Nat) (hc : lz_Unpack.cnt (x / 16) r0 = some ((lits.length : Int), lits ++ a :: b :: r3)) (h1 : (out.length : Int) + lits.length + m + 4 ≤ most) (hd : a + 256 * b = (d : Int)) (hd0 : 0 < d) (hd1 : d ≤ out.length + lits.length) (hc2 : lz_Unpack.cnt (x % 16) r3 = some ((m : Int), r4)) :
    lz_Unpack.go most (f + 1) (x :: r0) out = lz_Unpack.go most f r4 (lz_Unpack.cp d (m + 4) (out ++ lits)) := by
  rw [lz_Unpack.go.eq_def]
  simp only
  rw [hc]
  simp only
  rw [if_neg (by omega), if_neg (by rw [List.length_append]; omega), Int.toNat_natCast, List.drop_left' rfl, List.take_left' rfl]
  simp only
  rw [hd, if_neg (by rw [List.length_append]; omega), hc2]
  simp only
  rw [if_neg (by rw [List.length_append]; omega), Int.toNat_natCast, show ((m : Int) + 4).toNat = m + 4 by omega]
theorem take_next (l : List Int) (i : Nat) (h : i < l.length) : l.take i ++ [rd l (i : Int)] = l.take (i + 1) := by
  rw [List.take_add_one, List.getElem?_eq_getElem h, rd_nat, List.getD_eq_getElem?_getD, List.getElem?_eq_getElem h]
  rfl
theorem rd_take (l : List Int) (i j : Nat) (h : j < i) : rd (l.take i) (j : Int) = rd l (j : Int) := by
  rw [rd_nat, rd_nat, List.getD_eq_getElem?_getD, List.getD_eq_getElem?_getD, List.getElem?_take, if_pos h]
theorem cp_take (l : List Int) (d : Nat) (hd : 0 < d) : ∀ (m i : Nat), d ≤ i → i + m ≤ l.length → (∀ j, j < m → rd l ((i + j : Nat) : Int) = rd l ((i + j - d : Nat) : Int)) → lz_Unpack.cp d m (l.take i) = l.take (i + m)
  | 0, i, _, _, _ => rfl
  | m + 1, i, h1, h2, h3 => by
    have e : l.take i ++ [rd (l.take i) (((l.take i).length - d : Nat) : Int)] = l.take (i + 1) := by
      rw [List.length_take, show min i l.length = i by omega, rd_take l i (i - d) (by omega)]
      have := h3 0 (by omega)
      rw [Nat.add_zero] at this
      rw [← this, take_next l i (by omega)]
    rw [lz_Unpack.cp, e, cp_take l d hd m (i + 1) (by omega) (by omega) (fun j hj => by
      have := h3 (j + 1) (by omega)
      rw [show i + (j + 1) = i + 1 + j by omega] at this
      exact this), show i + 1 + m = i + (m + 1) by omega]
theorem run_same (l : List Int) (i k : Nat) : ∀ f n j, n ≤ j → j < lz_Pack.run l i k f n → rd l ((i + j : Nat) : Int) = rd l ((k + j : Nat) : Int)
  | 0, n, j, h1, h2 => by
    rw [lz_Pack.run] at h2
    omega
  | f + 1, n, j, h1, h2 => by
    rw [lz_Pack.run] at h2
    by_cases hc : i + n < l.length ∧ rd l (i + n : Nat) = rd l (k + n : Nat)
    · rw [if_pos hc] at h2
      by_cases he : j = n
      · rw [he]
        exact hc.2
      · exact run_same l i k f (n + 1) j (by omega) h2
    · rw [if_neg hc] at h2
      omega
theorem last_key (l : List Int) (y k : Int) : ∀ n, lz_Pack.lastAt l n y = some k → lz_Pack.keyAt l k.toNat = y
  | 0, h => by simp [lz_Pack.lastAt] at h
  | n + 1, h => by
    simp only [lz_Pack.lastAt, upd] at h
    split at h
    · rename_i he
      injection h with h
      rw [← h, Int.toNat_natCast]
      exact he.symm
    · exact last_key l y k n h
theorem key_same {l : List Int} (hb : ∀ x ∈ l, 0 ≤ x ∧ x < 256) (i k : Nat) (hi : i + 4 ≤ l.length) (hk : k + 4 ≤ l.length) (h : lz_Pack.keyAt l k = lz_Pack.keyAt l i) : ∀ j, j < 4 → rd l ((i + j : Nat) : Int) = rd l ((k + j : Nat) : Int) := by
  rw [key_val hb i hi, key_val hb k hk] at h
  have a0 := rd_byte hb (i : Int)
  have a1 := rd_byte hb ((i : Int) + 1)
  have a2 := rd_byte hb ((i : Int) + 2)
  have a3 := rd_byte hb ((i : Int) + 3)
  have b0 := rd_byte hb (k : Int)
  have b1 := rd_byte hb ((k : Int) + 1)
  have b2 := rd_byte hb ((k : Int) + 2)
  have b3 := rd_byte hb ((k : Int) + 3)
  intro j hj
  rw [Int.natCast_add, Int.natCast_add]
  have : j = 0 ∨ j = 1 ∨ j = 2 ∨ j = 3 := by omega
  rcases this with rfl | rfl | rfl | rfl
  · simp only [Int.natCast_zero, Int.add_zero]
    omega
  · show rd l ((i : Int) + 1) = rd l ((k : Int) + 1)
    omega
  · show rd l ((i : Int) + 2) = rd l ((k : Int) + 2)
    omega
  · show rd l ((i : Int) + 3) = rd l ((k : Int) + 3)
    omega
theorem go_acc (l : List Int) : ∀ f fr i out, lz_Pack.go l f fr i out = out ++ lz_Pack.go l f fr i []
  | 0, _, _, out => by rw [lz_Pack.go, lz_Pack.go, List.append_nil]
  | f + 1, fr, i, out => by
    rw [lz_Pack.go, lz_Pack.go]
    split
    · split
      · split
        · exact go_acc l f fr (i + 1) out
        · rw [go_acc l f _ _ (out ++ _), go_acc l f _ _ ([] ++ _), List.nil_append, List.append_assoc]
      · exact go_acc l f fr (i + 1) out
    · rw [List.nil_append]
theorem unpack_go {l : List Int} (hb : ∀ x ∈ l, 0 ≤ x ∧ x < 256) (hl : l.length < 10000000000) : ∀ f fr i g, fr ≤ i → i ≤ l.length → l.length - i < f → (lz_Pack.go l f fr i []).length < g → lz_Unpack.go (l.length : Int) g (lz_Pack.go l f fr i []) (l.take fr) = (l, 0)
  | 0, _, _, _, _, _, h, _ => absurd h (by omega)
  | f + 1, fr, i, 0, _, _, _, h => absurd h (by omega)
  | f + 1, fr, i, g + 1, h1, h2, h3, h4 => by
    rw [lz_Pack.go] at h4 ⊢
    by_cases h5 : i + 4 ≤ l.length
    · rw [if_pos h5] at h4 ⊢
      cases hq : lz_Pack.lastAt l i (lz_Pack.keyAt l i) with
      | none =>
        rw [hq] at h4
        simp only at h4 ⊢
        exact unpack_go hb hl f fr (i + 1) (g + 1) (by omega) (by omega) (by omega) h4
      | some q =>
        rw [hq] at h4
        simp only at h4 ⊢
        have hlt := lz_Pack.last_lt l _ q _ hq
        have hky := last_key l _ q _ hq
        obtain ⟨q, rfl⟩ := Int.eq_ofNat_of_zero_le hlt.1
        rw [Int.toNat_natCast] at h4 hky ⊢
        by_cases hfar : i - q > 65535
        · rw [if_pos hfar] at h4 ⊢
          exact unpack_go hb hl f fr (i + 1) (g + 1) (by omega) (by omega) (by omega) h4
        · rw [if_neg hfar] at h4 ⊢
          have hrun := lz_Pack.run_le l i q l.length 4 (by omega)
          have hsame : ∀ j, j < lz_Pack.run l i q l.length 4 → rd l ((i + j : Nat) : Int) = rd l ((q + j : Nat) : Int) := by
            intro j hj
            by_cases h' : j < 4
            · exact key_same hb i q h5 (by omega) hky j h'
            · exact run_same l i q l.length 4 j (by omega) hj
          obtain ⟨n, hn⟩ : ∃ n, n = lz_Pack.run l i q l.length 4 := ⟨_, rfl⟩
          rw [← hn] at h4 hrun hsame ⊢
          clear hn
          obtain ⟨d, hd⟩ : ∃ d, d = i - q := ⟨_, rfl⟩
          rw [← hd] at h4 hfar ⊢
          obtain ⟨lits, hlits⟩ : ∃ lits, lits = (l.take i).drop fr := ⟨_, rfl⟩
          rw [← hlits] at h4 ⊢
          have hll : lits.length = i - fr := by rw [hlits]; simp; omega
          rw [go_acc, List.nil_append] at h4 ⊢
          have htake : l.take fr ++ lits = l.take i := by
            rw [hlits]
            have := List.take_append_drop fr (l.take i)
            rw [List.take_take, show min fr i = fr by omega] at this
            exact this
          obtain ⟨T, hT⟩ : ∃ T, T = lz_Pack.go l f (i + n) (i + n) [] := ⟨_, rfl⟩
          have ih : ∀ g', T.length < g' → lz_Unpack.go (l.length : Int) g' T (l.take (i + n)) = (l, 0) := by
            intro g' hg
            rw [hT] at hg ⊢
            exact unpack_go hb hl f (i + n) (i + n) g' (Nat.le_refl _) (by omega) (by omega) hg
          rw [← hT] at h4 ⊢
          have hform : lz_Pack.part lits d n ++ T = ((16 * min lits.length 15 + min (n - 4) 15 : Nat) : Int) :: ((if 15 ≤ lits.length then lz_Pack.layT (lits.length - 15) else []) ++ (lits ++ ((d % 256 : Nat) : Int) :: ((d / 256 % 256 : Nat) : Int) :: ((if 15 ≤ n - 4 then lz_Pack.layT (n - 4 - 15) else []) ++ T))) := by
            unfold lz_Pack.part lz_Pack.litT
            by_cases h19 : 19 ≤ n
            · rw [if_pos h19, if_pos (show 15 ≤ n - 4 by omega), show n - 4 - 15 = n - 19 by omega]
              simp
            · rw [if_neg h19, if_neg (show ¬ 15 ≤ n - 4 by omega)]
              simp
          have hlen : T.length < g := by
            rw [hform] at h4
            simp only [List.length_cons, List.length_append] at h4
            omega
          have hc1 := cnt_lay lits.length (by omega) (lits ++ ((d % 256 : Nat) : Int) :: ((d / 256 % 256 : Nat) : Int) :: ((if 15 ≤ n - 4 then lz_Pack.layT (n - 4 - 15) else []) ++ T))
          have hc2 := cnt_lay (n - 4) (by omega) T
          have ex1 : ((16 * min lits.length 15 + min (n - 4) 15 : Nat) : Int) / 16 = ((min lits.length 15 : Nat) : Int) := by omega
          have ex2 : ((16 * min lits.length 15 + min (n - 4) 15 : Nat) : Int) % 16 = ((min (n - 4) 15 : Nat) : Int) := by omega
          rw [← ex1] at hc1
          rw [← ex2] at hc2
          have htl : (l.take fr).length = fr := by rw [List.length_take]; omega
          rw [hform, un_part _ _ g _ lits _ T (l.take fr) _ _ d (n - 4) hc1 (by omega) (by omega) (by omega) (by omega) hc2, htake, show n - 4 + 4 = n by omega]
          rw [cp_take l d (by omega) n i (by omega) (by omega) (fun j hj => by
            rw [hsame j hj, show i + j - d = q + j by omega])]
          exact ih g hlen
    · rw [if_neg h5] at h4 ⊢
      rw [List.nil_append] at h4 ⊢
      have hld : (l.drop fr).length = l.length - fr := List.length_drop
      have hform : lz_Pack.litT (l.drop fr) 0 = ((16 * min (l.drop fr).length 15 + min 0 15 : Nat) : Int) :: ((if 15 ≤ (l.drop fr).length then lz_Pack.layT ((l.drop fr).length - 15) else []) ++ l.drop fr) := rfl
      have hc1 := cnt_lay (l.drop fr).length (by omega) (l.drop fr)
      have ex1 : ((16 * min (l.drop fr).length 15 + min 0 15 : Nat) : Int) / 16 = ((min (l.drop fr).length 15 : Nat) : Int) := by omega
      rw [← ex1] at hc1
      have htl : (l.take fr).length = fr := by rw [List.length_take]; omega
      rw [hform, un_last _ _ g _ _ _ hc1 (by omega) (by omega), List.take_append_drop]
end Law
end Go.Proofs.Ythaifibhflfpkaa.Q
end
section
namespace Go.Proofs.Ythaifibhflfpkaa.Q
open Go.RowKit Go.Proofs.YthaifibhflfpkaaW.PrintWords Go.Proofs.YthaifibhflfpkaaW.PrintLast Go.Proofs.YthaifibhflfpkaaW.PrintMore Go.Proofs.YthaifibhflfpkaaX
attribute [local go_sem] max2_int min2_int max_two min_two max_three min_three max_four min_four   -- for this text's walks alone
set_option linter.unusedVariables false
set_option linter.unusedSimpArgs false
def texts_meaning.f (k : Nat) (a0 : Int) (l1 : List Int) (a2 : Int) : Option (List Int × Int) := if a0 = 1 then ((lz_Unpack.f l1 a2).bind fun bt707 => (some (bt707.1, bt707.2))) else (if a0 = 2 then ((sym_TakeTable.f k l1).bind fun bt711 => (if bt711.2.2 = 0 then (if 0 ≤ bt711.2.1 then (if bt711.2.1 ≤ (l1.length : Int) then ((sym_Decode.f bt711.1 (l1.drop (bt711.2.1 : Int).toNat) a2).bind fun bt720 => (some (bt720.1, bt720.2))) else (none)) else (none)) else (some (([] : List Int), bt711.2.2)))) else (some (([] : List Int), 2)))
set_option maxHeartbeats 8000000 in
set_option maxRecDepth 100000 in
theorem texts_meaning.calls (k : Nat) (a0 : Int) (A1 : Option Addr) (c1 : Nat) (l1 : List Int) (a2 : Int) (r1 : List Int) (r2 : Int) (w : World) (hr1 : Kd.C (Kd.int .u8) w A1 l1.length l1) (hc1 : l1.length ≤ c1) (h : texts_meaning.f k a0 l1 a2 = some (r1, r2)) :
  Calls Try.prog 33 #[.int .u8 a0, .slice A1 l1.length c1, .int .i64 a2] w fun e w' => ∃ v0_ : Value, e = .returned (.tuple #[v0_, .int .i64 r2]) ∧ Kd.V (Kd.int .u8) 5 w' w.heap.size (fun k_ => (w.heap.size ≤ k_)) v0_ r1 ∧ Below w.heap.size w w' := by
 have HR1 := aM hr1
 have HC1 := aM hc1
 clear hr1 hc1
 have HB := aM (Below.refl w.heap.size w)
 have H : (if a0 = 1 then ((lz_Unpack.f l1 a2).bind fun bt707 => (some (bt707.1, bt707.2))) else (if a0 = 2 then ((sym_TakeTable.f k l1).bind fun bt711 => (if bt711.2.2 = 0 then (if 0 ≤ bt711.2.1 then (if bt711.2.1 ≤ (l1.length : Int) then ((sym_Decode.f bt711.1 (l1.drop (bt711.2.1 : Int).toNat) a2).bind fun bt720 => (some (bt720.1, bt720.2))) else (none)) else (none)) else (some (([] : List Int), bt711.2.2)))) else (some (([] : List Int), 2)))) = some (r1, r2) := h
 clear h
 by_cases c4 : a0 = 1
 ·
  rw [if_pos c4] at H
  have c4b0 : (a0 == 1) = true := beq_iff_eq.mpr c4
  have c4b1 : (a0 != 1) = false := bne_eq_false_iff_eq.mpr c4
  clear c4
  replace H := Option.bind_eq_some_iff.mp H
  obtain ⟨⟨t707, t710⟩, A50, H⟩ := H
  replace H : (some (t707, t710)) = some (r1, r2) := H
  have A5 := aM A50
  clear A50
  simp only [Option.some.injEq, Prod.mk.injEq] at H
  obtain ⟨rfl, rfl⟩ := H
  go_enter Try.func33, Try.ntmps33
  go_wp2_with (first | ((with_reducible refine gate_callee (f := 61) rfl ?_); refine goesL_ (some 16) rfl rfl Try.func61 (by kernel_rfl) rfl #[.slice A1 l1.length c1, .int .i64 a2] rfl (by (try simp only [List.map_toArray, List.map_cons, List.map_nil]); first | done | rfl | (simp only [List.length_drop, List.length_take]; rfl)) ?_; (with_reducible refine (lz_Unpack.calls _ _ l1 a2 t707 t710 _ ?side1 ?side2 A5.out).mono ?_); (case side1 => exact xC HR1.out); (case side2 => exact HC1.out); rintro e w6 ⟨v708, rfl, ho0, hb⟩; refine ⟨_, rfl, ?_⟩; have n0_ := aM (Kd.V_lower (Kd.V_mono (ok' := fun k_ => (w.heap.size ≤ k_)) ho0 (fun k_ hk_ => (Nat.le_trans (below_size (xB HB.out)) hk_))) (below_size (xB HB.out))); have n1_ := aM (below_step (xB HB.out) hb); clear HB; have HO709 := n0_; have HB := n1_; clear n0_ n1_; (try clear hb); (try clear hb2); (try clear hk); (try clear hi); (try clear ho0)))
  go_ret2
  exact ⟨_, by first | rfl | (simp [errW_none, errW_some] <;> rfl) | (simp [*, errW_none, errW_some] <;> rfl), by (with_reducible repeat (first | apply Kd.V_alloc | apply Kd.V_drewN | apply Kd.V_drew)); exact HO709.out, xB HB.out⟩
 ·
  rw [if_neg c4] at H
  have c4b0 : (a0 == 1) = false := beq_eq_false_iff_ne.mpr c4
  have c4b1 : (a0 != 1) = true := bne_iff_ne.mpr c4
  by_cases c7 : a0 = 2
  ·
   rw [if_pos c7] at H
   have c7b0 : (a0 == 2) = true := beq_iff_eq.mpr c7
   have c7b1 : (a0 != 2) = false := bne_eq_false_iff_eq.mpr c7
   clear c7
   replace H := Option.bind_eq_some_iff.mp H
   obtain ⟨⟨t711, t712, t713⟩, A80, H⟩ := H
   replace H : (if t713 = 0 then (if 0 ≤ t712 then (if t712 ≤ (l1.length : Int) then ((sym_Decode.f t711 (l1.drop (t712 : Int).toNat) a2).bind fun bt720 => (some (bt720.1, bt720.2))) else (none)) else (none)) else (some (([] : List Int), t713))) = some (r1, r2) := H
   have A8 := aM A80
   clear A80
   by_cases c9 : t713 = 0
   ·
    rw [if_pos c9] at H
    have c9b0 : (t713 == 0) = true := beq_iff_eq.mpr c9
    have c9b1 : (t713 != 0) = false := bne_eq_false_iff_eq.mpr c9
    clear c9
    by_cases c10 : 0 ≤ t712
    ·
     rw [if_pos c10] at H
     have c10b0 := eq_true c10
     have c10b1 : decide (0 ≤ t712) = true := decide_eq_true c10
     clear c10
     by_cases c11 : t712 ≤ (l1.length : Int)
     ·
      rw [if_pos c11] at H
      have c11b0 := eq_true c11
      have c11b1 : decide (t712 ≤ (l1.length : Int)) = true := decide_eq_true c11
      clear c11
      obtain ⟨y716, hy716⟩ : ∃ y_ : List Int, y_ = (l1.drop (t712 : Int).toNat) := ⟨_, rfl⟩
      replace H : ((sym_Decode.f t711 y716 a2).bind fun bt720 => (some (bt720.1, bt720.2))) = some (r1, r2) := by first | (rw [hy716]; with_reducible exact H) | (have H2_ := (Option.bind_some _ _).symm.trans H; rw [hy716]; with_reducible exact H2_) | (have H2_ := (Option.bind_some _ _).symm.trans H; with_reducible exact H2_) | with_reducible exact H | (rw [hy716]; exact H) | exact H
      have Ny716 := aM hy716
      clear hy716
      replace H := Option.bind_eq_some_iff.mp H
      obtain ⟨⟨t720, t721⟩, A120, H⟩ := H
      replace H : (some (t720, t721)) = some (r1, r2) := H
      have A12 := aM A120
      clear A120
      simp only [Option.some.injEq, Prod.mk.injEq] at H
      obtain ⟨rfl, rfl⟩ := H
      go_enter Try.func33, Try.ntmps33
      go_wp2_with (first | ((with_reducible refine gate_callee (f := 62) rfl ?_); refine goesL_ (some 23) rfl rfl Try.func62 (by kernel_rfl) rfl #[.slice A1 l1.length c1] rfl (by (try simp only [List.map_toArray, List.map_cons, List.map_nil]); first | done | rfl | (simp only [List.length_drop, List.length_take]; rfl)) ?_; (with_reducible refine (sym_TakeTable.calls k _ _ l1 t711 t712 t713 _ ?side1 ?side2 A8.out).mono ?_); (case side1 => exact xC HR1.out); (case side2 => exact HC1.out); rintro e w13 ⟨v714, rfl, ho0, hb⟩; refine ⟨_, rfl, ?_⟩; have n0_ := aM (Kd.R_lower (Kd.R_newM (M := fun k_ => (w.heap.size ≤ k_)) ho0 (below_size (xB HB.out)) (fun k_ h_ => h_)) (below_size (xB HB.out))); have n1_ := aM (below_step (xB HB.out) hb); clear HB; have HO715 := n0_; have HB := n1_; clear n0_ n1_; (try clear hb); (try clear hb2); (try clear hk); (try clear hi); (try clear ho0); have q14 : (t712 : Int) ≤ ((l1.length : Int) : Int) := of_decide_eq_true (by first | (with_reducible assumption) | assumption); obtain ⟨i014, hi014, _, hsz14, _⟩ := info_parts info5; have hroom14 : l1.length ≤ c1 := HC1.out; have hC14 : Kd.C (Kd.int .u8) _ A1 l1.length l1 := HR1.out; have q014 : (0 : Int) ≤ (t712 : Int) := of_decide_eq_true (by first | (with_reducible assumption) | assumption); have hcut14 := cut_from (P := Try.prog) 22 5 .i64 Try.underlying22 hi014 1 hsz14 A1 l1.length c1 t712 q014 q14; have hr14 := Kd.C_drop (m := (t712 : Int).toNat) (c := c1) hC14 (by omega) hroom14; obtain ⟨A14, hA14⟩ : ∃ A_z, A_z = (if c1 = (t712 : Int).toNat then A1 else (A1 : Option Addr).map (·.add ((t712 : Int).toNat * 1))) := ⟨_, rfl⟩; obtain ⟨c14, hc14⟩ : ∃ c_z, c_z = c1 - (t712 : Int).toNat := ⟨_, rfl⟩; have hy14 : y716.length = l1.length - (t712 : Int).toNat := (by rw [Ny716.out, List.length_drop] <;> omega); rw [show (l1).drop (t712 : Int).toNat = y716 from Ny716.out.symm] at hr14; replace hr14 : Kd.C (Kd.int .u8) _ A14 y716.length y716 := (by rw [hA14]; exact hr14); rw [← hy14, ← hA14, ← hc14] at hcut14; have HR719 := aM hr14; have HC719 := aM (show y716.length ≤ c14 from by rw [hy14, hc14]; exact Nat.sub_le_sub_right hroom14 _); clear hr14 hC14 hroom14 hi014 hsz14 hc14; have KY14 := aM hy14; have KA14 := aM hA14; clear hy14 hA14; replace q14 := eq_true q14; obtain ⟨Ao15, co15, eo15⟩ := Kd.R_slice HO715.out; subst eo15) | ((with_reducible refine gate_callee (f := 63) rfl ?_); refine goesL_ (some 35) rfl rfl Try.func63 (by kernel_rfl) rfl #[.slice Ao15 t711.length co15, .slice A14 y716.length c14, .int .i64 a2] rfl (by (try simp only [List.map_toArray, List.map_cons, List.map_nil]); first | done | rfl | (simp only [List.length_drop, List.length_take]; rfl)) ?_; (with_reducible refine (sym_Decode.calls _ _ t711 _ _ y716 a2 t720 t721 _ ?side1 ?side2 ?side3 ?side4 A12.out).mono ?_); (case side1 => exact xC ((Kd.R_reads' HO715.out).2.2)); (case side2 => exact (Kd.R_reads' HO715.out).2.1); (case side3 => exact xC (Kd.C_below HR719.out HB.out)); (case side4 => exact HC719.out); rintro e w16 ⟨v722, rfl, ho0, hb⟩; refine ⟨_, rfl, ?_⟩; have n0_ := aM (Kd.R_below (xR HO715.out) hb); have n1_ := aM (Kd.R_lower (Kd.R_newM (M := fun k_ => (w.heap.size ≤ k_)) ho0 (below_size (xB HB.out)) (fun k_ h_ => h_)) (below_size (xB HB.out))); have n2_ := aM (below_step (xB HB.out) hb); clear HO715; clear HB; have HO715 := n0_; have HO723 := n1_; have HB := n2_; clear n0_ n1_ n2_; (try clear hb); (try clear hb2); (try clear hk); (try clear hi); (try clear ho0)))
      go_ret2
      exact ⟨_, by first | rfl | (simp [errW_none, errW_some] <;> rfl) | (simp [*, errW_none, errW_some] <;> rfl), Kd.R_V (by (with_reducible repeat (first | apply Kd.R_alloc | apply Kd.R_drewN | apply Kd.R_drew)); exact Kd.R_mono HO723.out (fun _ hk => hk.1)), xB HB.out⟩
     ·
      rw [if_neg c11] at H
      exact absurd H (by simp)
    ·
     rw [if_neg c10] at H
     exact absurd H (by simp)
   ·
    rw [if_neg c9] at H
    have c9b0 : (t713 == 0) = false := beq_eq_false_iff_ne.mpr c9
    have c9b1 : (t713 != 0) = true := bne_iff_ne.mpr c9
    simp only [Option.some.injEq, Prod.mk.injEq] at H
    obtain ⟨rfl, rfl⟩ := H
    go_enter Try.func33, Try.ntmps33
    go_wp2_with (first | ((with_reducible refine gate_callee (f := 62) rfl ?_); refine goesL_ (some 23) rfl rfl Try.func62 (by kernel_rfl) rfl #[.slice A1 l1.length c1] rfl (by (try simp only [List.map_toArray, List.map_cons, List.map_nil]); first | done | rfl | (simp only [List.length_drop, List.length_take]; rfl)) ?_; (with_reducible refine (sym_TakeTable.calls k _ _ l1 t711 t712 t713 _ ?side1 ?side2 A8.out).mono ?_); (case side1 => exact xC HR1.out); (case side2 => exact HC1.out); rintro e w17 ⟨v714, rfl, ho0, hb⟩; refine ⟨_, rfl, ?_⟩; have n0_ := aM (Kd.R_lower (Kd.R_newM (M := fun k_ => (w.heap.size ≤ k_)) ho0 (below_size (xB HB.out)) (fun k_ h_ => h_)) (below_size (xB HB.out))); have n1_ := aM (below_step (xB HB.out) hb); clear HB; have HO715 := n0_; have HB := n1_; clear n0_ n1_; (try clear hb); (try clear hb2); (try clear hk); (try clear hi); (try clear ho0)))
    go_ret2
    exact ⟨_, by first | rfl | (simp [errW_none, errW_some] <;> rfl) | (simp [*, errW_none, errW_some] <;> rfl), (by first | exact Kd.V_nil _ _ _ _ _ | exact Kd.R_V (Kd.R_nil _ _ _ _ _)), xB HB.out⟩
  ·
   rw [if_neg c7] at H
   have c7b0 : (a0 == 2) = false := beq_eq_false_iff_ne.mpr c7
   have c7b1 : (a0 != 2) = true := bne_iff_ne.mpr c7
   simp only [Option.some.injEq, Prod.mk.injEq] at H
   obtain ⟨rfl, rfl⟩ := H
   go_enter Try.func33, Try.ntmps33
   go_wp2
   go_ret2
   exact ⟨_, by first | rfl | (simp [errW_none, errW_some] <;> rfl) | (simp [*, errW_none, errW_some] <;> rfl), (by first | exact Kd.V_nil _ _ _ _ _ | exact Kd.R_V (Kd.R_nil _ _ _ _ _)), xB HB.out⟩
end Go.Proofs.Ythaifibhflfpkaa.Q
end
