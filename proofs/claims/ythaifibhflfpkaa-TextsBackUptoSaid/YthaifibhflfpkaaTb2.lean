/- A part of the claim's own texts: words, walks and plain laws. -/
import Derived.Test.YthaifibhflfpkaaTb1
import Derived.Test.YthaifibhflfpkaaProg
import Derived.Below
import Derived.Deep.Draws
import Derived.Deep.AppendLies
import Derived.Maps.AppendAt
import Derived.OwnWalk
import Derived.Laws.BytesArg
import Derived.Laws.MakeOwn
import Derived.Laws.OwnMore
import Derived.Deep.OwnRows
import Derived.Tactics
import Derived.Lib.ConvBytes
import Derived.Laws.Slices
import Derived.WalkKit
import Derived.KernelRfl
import Derived.RowKit3
import Derived.Deep.LoopGhost
import Derived.Deep.QuietTactic
import Derived.BigQuiet
import Derived.WideLaws
import Derived.Deep.DeepCutAuto
import Derived.Deep.CutBlock
import Derived.Deep.RegionHeld3
import Derived.Laws.Rows
import Derived.Lib.AppendStr
import Derived.ArgAppend
import Derived.Laws.IdiomCopy
import Derived.OrdersHeld
import Derived.Laws.BitsLemmas
import Derived.RowKit
import Derived.Test.YthaifibhflfpkaaTb0
import Derived.Lib.Hide
import Derived.Lib.SliceRun
section
namespace Go.Proofs.YthaifibhflfpkaaX
open Go.RowKit Go.Proofs.YthaifibhflfpkaaW.PrintWords Go.Proofs.YthaifibhflfpkaaW.PrintLast Go.Proofs.YthaifibhflfpkaaW.PrintMore
section
variable {P : Program} {ops : Array Oper} {rest : List Oper} {o : Oper} {a : Act} {Q : Exit → Act → World → Prop} {α : Type}
theorem R_make0 (d : Kd α) {w0 W : World} (base e : Nat) (hgd : o.guard = none) {N : Tmp} (_hd : o.dst = some N) (t : TypeId) (x y : Operand) (ho : o.op = .makeSlice t x y) (n : Int) (hx : a.eval x = .int .i64 0) (hy : a.eval y = .int .i64 n)
    (ht : P.underlying t = some (.slice e)) (z : Value) (bytes : Nat) (hinfo : (P.info? e).map (fun i => (i.zero, i.size, i.bytes)) = some (some z, d.sz, bytes)) (_hz : z.cells.size = d.sz) (_hs0 : 0 < d.sz) (hb0 : 0 < bytes)
    (z0 : α) {ok okp : Nat → Prop} (_hzero : d.M W base okp z0 z.cells.toList) (_hok : ∀ k, okp k → ok k) (hfresh : ok W.heap.size) (h0 : 0 ≤ n) (hl : n.toNat * bytes ≤ 281474976710656) (HB : Below base w0 W) (hbase : base ≤ W.heap.size)
    (h : ∀ v1 w1, d.R e w1 base ok v1 [] → Below base w0 w1 → W.grownBy w1 none → (∃ b, v1.ownBlock = some b ∧ W.heap.size ≤ b) → wpList P ops Q rest (a.put o.dst v1) w1) : wpList P ops Q (o :: rest) a W := by
  obtain ⟨m, rfl⟩ := Int.eq_ofNat_of_zero_le h0
  simp only [Int.toNat_natCast] at hl
  obtain ⟨i0, hi, hzz⟩ := Option.map_eq_some_iff.1 hinfo
  simp only [Prod.mk.injEq] at hzz
  obtain ⟨hz0, hz1, hz2⟩ := hzz
  have hm : m ≤ 281474976710656 := Nat.le_trans (Nat.le_mul_of_pos_right _ hb0) hl
  refine wpList_make_own W hgd x y t ho base e i0 z d.sz ht hi hz0 hz1 .i64 .i64 (m : Int) m hx hy rfl (by rw [hz2, Nat.mul_comm]; exact hl) (by simp only [maxLen]; omega) hbase ?_
  intro w1 hown hg
  exact h _ _ ⟨fun k hk => by have : W.heap.size = k := by simpa [Value.ownBlock] using hk
                              subst this; exact hfresh, [], hown, Reps.none _ _⟩ (HB.grown hg hbase (fun k hk => by cases hk)) hg ⟨W.heap.size, by simp [Value.ownBlock], Nat.le_refl _⟩
end
end Go.Proofs.YthaifibhflfpkaaX
namespace Go.Proofs.YthaifibhflfpkaaX
open Go.RowKit Go.Proofs.YthaifibhflfpkaaW.PrintWords Go.Proofs.YthaifibhflfpkaaW.PrintLast Go.Proofs.YthaifibhflfpkaaW.PrintMore
def strBytes.f (s : ByteArray) : Option (List Int) := if s.size ≤ 9223372036854775807 then some (bytesOf s) else none
theorem bytes_event {P : Program} {ops : Array Oper} {rest : List Oper} {o : Oper} {a : Act} {Q : Exit → Act → World → Prop} {W : World} (hgd : o.guard = none) (src dst e : TypeId) (x : Operand) (ho : o.op = .convert src dst x) {u : TypeDesc} (hs : P.underlying src = some u) (hd : P.underlying dst = some (.slice e)) (he : P.underlying e = some (.int .u8))
    (s : ByteArray) (hx : a.eval x = .string s) (r : List Int) (hf : strBytes.f s = some r)
    (h : ∀ v1 w1, Kd.V (Kd.int .u8) e w1 W.heap.size (fun k_ => W.heap.size ≤ k_) v1 r → Below W.heap.size W w1 → wpList P ops Q rest (a.put o.dst v1) w1) : wpList P ops Q (o :: rest) a W := by
  unfold strBytes.f at hf
  split at hf
  case isFalse => cases hf
  case isTrue hl =>
  injection hf with hf
  subst hf
  refine wpList_plain hgd fun K' hK' => ?_
  have hrun := print_bytes (P := P) src dst e hs hd he s W
  have hrd := bytes_reads W e s hl
  have hbl : (bytesOf s).length = s.size := bytesOf_length s
  unfold Oper.wp
  simp [execOp, ho, hx, hrun, Result.andThen]
  refine hK' _ _ (h _ _ ⟨some ⟨W.heap.size, 0, none⟩, _, by rw [hbl], ?_, fun W' hW => ⟨rfl, by rw [hbl]; exact hl, fun hp => ⟨_, rfl, fun j p hj => ⟨[.int .u8 p], rfl, rfl, fun i v hv => ?_⟩⟩⟩⟩ (bytes_below (Below.refl _ _) (Nat.le_refl _) e s))
  · rw [hbl]
    exact grownCap_ge _ _ _ _
  · have hi0 : i = 0 := by
      have := (List.getElem?_eq_some_iff.1 hv).1
      simpa using this
    subst hi0
    have hv' : Value.int .u8 p = v := by simpa using hv
    subst hv'
    have hj' : j < (bytesOf s).length := (List.getElem?_eq_some_iff.1 hj).1
    obtain ⟨ad, hade, hcell⟩ := hrd.2.2 (by omega)
    injection hade with hade
    subst hade
    have hc := hcell j (by omega)
    rw [List.getD_eq_getElem?_getD, hj, Option.getD_some] at hc
    have e1 : (⟨W.heap.size, 0, none⟩ : Addr).add (j * 1 + 0) = ⟨W.heap.size, j, none⟩ := by
      unfold Addr.add
      by_cases h0 : j = 0
      · subst h0; rfl
      · simp [h0]
    have e2 : (⟨W.heap.size, 0, none⟩ : Addr).add j = ⟨W.heap.size, j, none⟩ := by
      unfold Addr.add
      by_cases h0 : j = 0
      · subst h0; rfl
      · simp [h0]
    show W'.cell? ((⟨W.heap.size, 0, none⟩ : Addr).add (j * 1 + 0)) = _
    rw [e1]
    rw [e2] at hc
    have hlt : W.heap.size < (Lib.bytesWorld W e s).heap.size := by rw [Lib.bytesWorld_size]; omega
    have hb := hW W.heap.size (Nat.le_refl _) hlt
    unfold World.cell? at hc ⊢
    simp only [hb] at hc ⊢
    exact hc
theorem FK_of_R {α : Type} {d : Kd α} {e base : Nat} {W : World} {ok : Nat → Prop} {v : Value} {xs : List α} (h : Kd.R d e W base ok v xs) : Kd.FK (Kd.slice e d) W ok xs [v] := by
  obtain ⟨A, c, rfl⟩ := Kd.R_slice h
  exact Kd.FK_slice_mk (Kd.R_reads' h).2.1 (Kd.R_F h)
inductive Ext : World → World → Prop
  | same (w : World) : Ext w w
  | alloc {w W : World} (o : Obj) : Ext w W → Ext w (W.alloc o)
  | drew {w W : World} : Ext w W → Ext w W.drew
  | drewN {w W : World} (n : Nat) : Ext w W → Ext w (W.drewN n)
class Kp (w W : World) : Prop where
  out : Ext w W
instance (priority := low) kpAlloc (w W : World) (o : Obj) [h : Kp w W] : Kp w (W.alloc o) := ⟨.alloc o h.out⟩
instance (priority := low) kpDrew (w W : World) [h : Kp w W] : Kp w W.drew := ⟨.drew h.out⟩
instance (priority := low) kpDrewN (w W : World) (n : Nat) [h : Kp w W] : Kp w (W.drewN n) := ⟨.drewN n h.out⟩
instance (priority := high) kpSame (w : World) : Kp w w := ⟨.same w⟩
theorem Ext.under {w0 w W : World} (h : Ext w W) (hb : Below w0.heap.size w0 w) : Below w0.heap.size w0 W := by
  induction h with
  | same => exact hb
  | alloc o h ih => exact below_alloc ih o
  | drew h ih => exact below_drew1 ih
  | drewN n h ih => exact pw_below_drewN ih n
theorem xB {w0 w W : World} (hb : Below w0.heap.size w0 w) [h : Kp w W] : Below w0.heap.size w0 W := h.out.under hb
section
variable {α : Type} {d : Kd α} {e base : Nat} {ok : Nat → Prop} {v : Value} {xs : List α} {w W : World}
theorem xR (hr : Kd.R d e w base ok v xs) [h : Kp w W] : Kd.R d e W base ok v xs := by
  obtain ⟨h⟩ := h
  induction h with
  | same => exact hr
  | alloc o h ih => exact Kd.R_alloc ih o
  | drew h ih => exact Kd.R_drew ih
  | drewN n h ih => exact Kd.R_drewN ih n
theorem xV (hr : Kd.V d e w base ok v xs) [h : Kp w W] : Kd.V d e W base ok v xs := by
  obtain ⟨h⟩ := h
  induction h with
  | same => exact hr
  | alloc o h ih => exact Kd.V_alloc ih o
  | drew h ih => exact Kd.V_drew ih
  | drewN n h ih => exact Kd.V_drewN ih n
theorem xN (hr : Kd.N d e w base ok v xs) [h : Kp w W] : Kd.N d e W base ok v xs := by
  obtain ⟨h⟩ := h
  induction h with
  | same => exact hr
  | alloc o h ih => exact Kd.N_alloc ih o
  | drew h ih => exact Kd.N_drew ih
  | drewN n h ih => exact Kd.N_drewN ih n
theorem xC {A : Option Addr} {n : Nat} (hr : Kd.C d w A n xs) [h : Kp w W] : Kd.C d W A n xs := by
  obtain ⟨h⟩ := h
  induction h with
  | same => exact hr
  | alloc o h ih => exact Kd.C_alloc ih o
  | drew h ih => exact Kd.C_drew ih
  | drewN n h ih => exact Kd.C_drewN ih n
end
theorem aM {p : Prop} (h : p) : Aside0 p := Aside0.mk h
theorem xQ : (∀ (a : Act) (v : Value), a.put none v = a) ∧ (∀ (a : Act) (t : Tmp) (v : Value), a.put (some t) v = { a with tmps := a.tmps.setIfInBounds t v }) ∧ (∀ (l : List Value) (i : Nat) (a : Value), l.toArray.setIfInBounds i a = (l.set i a).toArray) ∧ (∀ (x : Value) (l : List Value) (a : Value), (x :: l).set 0 a = a :: l) ∧ (∀ (x : Value) (l : List Value) (n : Nat) (a : Value), (x :: l).set (n + 1) a = x :: l.set n a) :=
  ⟨fun _ _ => rfl, fun _ _ _ => rfl, fun l i a => List.setIfInBounds_toArray l i a, fun _ _ _ => rfl, fun _ _ _ _ => rfl⟩
end Go.Proofs.YthaifibhflfpkaaX
end
section
namespace Go.Proofs.Ythaifibhflfpkaa.Q
open Go.RowKit Go.Proofs.YthaifibhflfpkaaW.PrintWords Go.Proofs.YthaifibhflfpkaaW.PrintLast Go.Proofs.YthaifibhflfpkaaW.PrintMore Go.Proofs.YthaifibhflfpkaaX
attribute [local go_sem] max2_int min2_int max_two min_two max_three min_three max_four min_four   -- for this text's walks alone
set_option linter.unusedVariables false
set_option linter.unusedSimpArgs false
def errW : Option Int → Value
 | none => .nilIface
 | some c => .iface 0 (.int .i64 c)
theorem errW_none : errW none = .nilIface := rfl
theorem errW_some (c : Int) : errW (some c) = .iface 0 (.int .i64 c) := rfl
theorem info5 : (Try.prog.info? 5).map (fun i => (i.zero, i.size, i.bytes)) = some (some (.int .u8 0), 1, 1) := by kernel_rfl
theorem info9 : (Try.prog.info? 9).map (fun i => (i.zero, i.size, i.bytes)) = some (some (.string ⟨#[]⟩), 1, 16) := by kernel_rfl
theorem info22 : (Try.prog.info? 22).map (fun i => (i.zero, i.size, i.bytes)) = some (some (.slice none 0 0), 1, 24) := by kernel_rfl
theorem info40 : (Try.prog.info? 40).map (fun i => (i.zero, i.size, i.bytes)) = some (some (.int .u64 0), 1, 8) := by kernel_rfl
def rd_L1 (xs : List (List Int)) (i : Int) : (List Int) := xs.getD i.toNat ([] : List Int)
theorem at_L1 {w : World} {A : Option Addr} {n : Nat} {xs : List (List Int)} (h : Kd.C (Kd.slice 5 (Kd.int .u8)) w A n xs) (i : Int) (h0 : 0 ≤ i) (h1 : i < n) : ∃ ad A0 c0, A = some ad ∧ w.cell? (ad.add i.toNat) = some (.slice A0 (rd_L1 xs i).length c0) ∧ (rd_L1 xs i).length ≤ c0 ∧ (Kd.int .u8).C w A0 (rd_L1 xs i).length (rd_L1 xs i) := by
 obtain ⟨ad, c, e, _, hK, hc0⟩ := Kd.C_get h ([] : List Int) i h0 h1
 have hc : ∀ j u, c[j]? = some u → w.cell? (ad.add (i.toNat * 1 + j)) = some u := hc0
 obtain ⟨A0, c0, rfl, l0, g0⟩ := hK
 exact ⟨ad, A0, c0, e, by have hq := hc 0 _ rfl; rwa [Nat.mul_one, Nat.add_zero] at hq, l0, g0⟩
structure S85 where
 f0 : ByteArray
 f1 : Int
end Go.Proofs.Ythaifibhflfpkaa.Q
end
section
namespace Go.Proofs.Ythaifibhflfpkaa.Q
open Go.RowKit Go.Proofs.YthaifibhflfpkaaW.PrintWords Go.Proofs.YthaifibhflfpkaaW.PrintLast Go.Proofs.YthaifibhflfpkaaW.PrintMore Go.Proofs.YthaifibhflfpkaaX
theorem Ev.pos {α : Type} {c : Prop} [Decidable c] {g f : Nat → Option α} {r : α} (hc : c) (h : Ev g r) : Ev (fun k => if c then g k else f k) r := Ev.congr (fun _ => if_pos hc) h
theorem Ev.neg {α : Type} {c : Prop} [Decidable c] {g f : Nat → Option α} {r : α} (hc : ¬ c) (h : Ev f r) : Ev (fun k => if c then g k else f k) r := Ev.congr (fun _ => if_neg hc) h
theorem Ev.same {α : Type} {o : Option α} {r : α} (h : o = some r) : Ev (fun _ => o) r := ⟨0, fun _ _ => h⟩
theorem Ev.get {α β : Type} {o : Option α} {f : Nat → α → Option β} {a : α} {r : β} (h : o = some a) (k : Ev (fun n => f n a) r) : Ev (fun n => o.bind (f n)) r := Ev.bind (Ev.same h) k
namespace Law
theorem rd_nat (l : List Int) (i : Nat) : rd l (i : Int) = l.getD i 0 := by simp [rd]
theorem rd_drop (l : List Int) (i : Nat) (j : Int) (hj : 0 ≤ j) : rd (l.drop i) j = rd l ((i : Int) + j) := by
  obtain ⟨j, rfl⟩ := Int.eq_ofNat_of_zero_le hj
  have e : ((i : Int) + (j : Int)).toNat = i + j := by omega
  simp [rd, e, List.getD_eq_getElem?_getD]
theorem rd_mem {l : List Int} {p : Int → Prop} (hp : ∀ x ∈ l, p x) (i : Int) (h : i.toNat < l.length) : p (rd l i) := by
  unfold rd
  rw [List.getD_eq_getElem?_getD, List.getElem?_eq_getElem h]
  exact hp _ (List.getElem_mem h)
theorem rd_byte {l : List Int} (hb : ∀ x ∈ l, 0 ≤ x ∧ x < 256) (i : Int) : 0 ≤ rd l i ∧ rd l i < 256 := by
  by_cases h : i.toNat < l.length
  · exact rd_mem hb i h
  · unfold rd
    rw [List.getD_eq_getElem?_getD, List.getElem?_eq_none (by omega)]
    decide
theorem wraps_u32 (n : Int) (h0 : 0 ≤ n) (h1 : n < 2 ^ 32) : IntKind.u32.wrap n = n := by rw [IntKind.wrap_u32]; omega
theorem wraps_u64 (n : Int) (h0 : 0 ≤ n) (h1 : n < 2 ^ 64) : IntKind.u64.wrap n = n := by
  show n % 18446744073709551616 = n
  omega
theorem w64_sub (a b : Nat) (h : b ≤ a) (ha : a < 1000000000000) : wrap64 ((a : Int) - (b : Int)) = ((a - b : Nat) : Int) := by
  unfold wrap64
  omega
theorem w64_add (a b : Nat) (ha : a < 1000000000000) (hb : b < 1000000000000) : wrap64 ((a : Int) + (b : Int)) = ((a + b : Nat) : Int) := by
  unfold wrap64
  omega
theorem w64_subl (a b : Nat) (c : Int) (hc : c = (b : Int)) (h : b ≤ a) (ha : a < 1000000000000) : wrap64 ((a : Int) - c) = ((a - b : Nat) : Int) := by
  subst hc
  exact w64_sub a b h ha
theorem w64_nat (z : Int) (n : Nat) (h : z = (n : Int)) (hn : n < 9223372036854775808) : wrap64 z = (n : Int) := by
  subst h
  unfold wrap64
  omega
theorem w64_succ (a : Nat) (ha : a < 1000000000000) : wrap64 ((a : Int) + 1) = ((a + 1 : Nat) : Int) := by
  unfold wrap64
  omega
theorem or_join (k : IntKind) (j : Nat) (hj : j ≤ k.bits) (hk : ∀ n : Int, 0 ≤ n → n < 2 ^ j → k.wrap n = n) (i : Nat)
    (y x : Int) (hx0 : 0 ≤ x) (hx : x % 2 ^ i = 0) (hx1 : x < 2 ^ j) (hy0 : 0 ≤ y) (hy : y < 2 ^ i) (hy1 : y < 2 ^ j) : Go.bits .or k y x = y + x := by
  have h := Go.bits_join k j hj hk i x y hx0 hx hx1 hy0 hy hy1
  obtain ⟨a, rfl⟩ := Int.eq_ofNat_of_zero_le hx0
  obtain ⟨b, rfl⟩ := Int.eq_ofNat_of_zero_le hy0
  have ha : a < 2 ^ j := by exact_mod_cast hx1
  have hb : b < 2 ^ j := by exact_mod_cast hy1
  rw [(Go.bits_nat k j hj hk b a hb ha).2, Nat.or_comm, ← (Go.bits_nat k j hj hk a b ha hb).2, h, Int.add_comm]
end Law
end Go.Proofs.Ythaifibhflfpkaa.Q
end
section
namespace Go.Proofs.Ythaifibhflfpkaa.Q
open Go.RowKit Go.Proofs.YthaifibhflfpkaaW.PrintWords Go.Proofs.YthaifibhflfpkaaW.PrintLast Go.Proofs.YthaifibhflfpkaaW.PrintMore Go.Proofs.YthaifibhflfpkaaX
attribute [local go_sem] max2_int min2_int max_two min_two max_three min_three max_four min_four   -- for this text's walks alone
set_option linter.unusedVariables false
set_option linter.unusedSimpArgs false
def slices_Clone_byte_byte.f (l0 : List Int) : Option (List Int) := if l0.length < 140737488355328 then some l0 else none
set_option maxHeartbeats 8000000 in
set_option maxRecDepth 100000 in
theorem slices_Clone_byte_byte.calls (A0 : Option Addr) (c0 : Nat) (l0 : List Int) (r : List Int) (w : World) (hr0 : Kd.C (Kd.int .u8) w A0 l0.length l0) (hc0 : l0.length ≤ c0) (h : slices_Clone_byte_byte.f l0 = some r) :
  Calls Try.prog 60 #[.slice A0 l0.length c0] w fun e w' => ∃ v0_ : Value, e = .returned (v0_) ∧ Kd.R (Kd.int .u8) 5 w' w.heap.size (fun _ => True) v0_ r ∧ Below w.heap.size w w' := by
 have HR0 := aM hr0
 have HC0 := aM hc0
 clear hr0 hc0
 have HB := aM (Below.refl w.heap.size w)
 unfold slices_Clone_byte_byte.f at h
 split at h
 case isFalse => exact absurd h (by simp)
 case isTrue hl =>
 obtain rfl := Option.some.inj h
 clear h
 have LM := aM hl
 clear hl
 rcases A0 with _ | ad
 ·
  have H0 : Aside0 (l0 = []) := ⟨by
   rcases Nat.eq_zero_or_pos l0.length with h | h
   · exact List.eq_nil_of_length_eq_zero h
   ·
    obtain ⟨a, h', _⟩ := HR0.out.2.2 h
    cases h'⟩
  have keq := fun W : World => Lib.run_eql_slice_nil (P := Try.prog) W 22 5 none l0.length c0 0 0 Try.underlying22
  go_enter Try.func60, Try.ntmps60
  go_wp2
  go_ret
  exact ⟨_, rfl, by rw [H0.out]; exact Kd.R_nil _ _ _ _ _, HB.out⟩
 ·
  have keq := fun W : World => Lib.run_eql_slice_nil (P := Try.prog) W 22 5 (some ad) l0.length c0 0 0 Try.underlying22
  go_enter Try.func60, Try.ntmps60
  go_wp2_with (first | ((with_reducible refine gate_dst (N := 5) rfl ?_); refine Kd.R_lit (Kd.int .u8) _ 5 ?hg (N := 5) ?hd (xs := ([] : List Int)) (inner := []) (ok := fun _ => True) (okp := fun _ => True) ?hr ?hp (fun _ hk => hk) trivial (Below.refl _ _) (Nat.le_refl _) (by simp) ?_; (case hd => rfl); (case hg => rfl); (case hr => first | (go_simp; done) | (go_simp; rfl)); (case hp => exact (Reps.none _ _)); intro v1 w1 ho1 hb hg_ hnew_; clear hg_ hnew_; have HO1 := aM (Kd.R_lower ho1 (below_size (xB HB.out))); have HB1 := aM (below_step (xB HB.out) hb); clear HB; have HB := HB1; clear HB1 hb ho1) | ((with_reducible refine gate_builtin (b := .append) (xs := #[.tmp 5, .tmp 6]) rfl ?_); at_builtin; refine Kd.R_append_rows (Kd.int .u8) (w0 := w) w.heap.size rfl (.tmp 5) (.tmp 6) 22 5 (.int .u8 0) 1 rfl Try.underlying22 info5 rfl (by decide) (by omega) v1 [] l0 _ _ _ (fun _ => True) (fun _ => False) rfl rfl ?aO ?aR (fun _ _ h => h) (fun _ h => h.elim) ?aF ?aB ?aS ?aL ?_; (case aR => exact (Kd.C_below HR0.out HB.out)); (case aB => exact HB.out); (case aF => exact (fun _ _ => trivial)); (case aO => exact HO1.out); (case aS => exact (below_size HB.out)); (case aL => have := LM.out; simp only [List.length_nil]; omega); intro v2 w2 ho hb hg hat; have HB2 := aM hb; have HO2 := aM ho; clear HB HO1; have HB := HB2; clear HB2 ho hb hg hat))
  go_ret
  exact ⟨_, rfl, by simpa using HO2.out, HB.out⟩
end Go.Proofs.Ythaifibhflfpkaa.Q
end
