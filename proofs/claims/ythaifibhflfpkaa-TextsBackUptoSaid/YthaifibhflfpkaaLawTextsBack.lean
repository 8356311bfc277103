/- Whatever lines and bytes of bulk at most 1048576 are handed to the law's function TextsBack: it returns true, and what was handed in reads as it did. -/
import Derived.Test.YthaifibhflfpkaaRows
import Derived.Test.YthaifibhflfpkaaTb15
import Derived.WalkKit
import Derived.ProofKit
import Derived.OpenShut
import Derived.ShutString
import Derived.ChangeOld
import Derived.Below
import Derived.JoinedCond
import Derived.Deep.Matrix
namespace Go.Proofs.Ythaifibhflfpkaa.textsBack
open Go.ChangeShapes Go.WideShapes Go.ChangeAt Go.RowKit
open Go.ChangeMaps (open_string shut_string)
set_option linter.unusedVariables false
theorem own : ownKnob Try.prog.godebug = none := by kernel_rfl
theorem laidOut : laidOutB Try.prog = true := by kernel_rfl
def IsRow (k : IntKind) (w : World) (a : Option Addr) (len cap : Nat) (zs : List Int) : Prop :=
  (a = none ∧ len = 0 ∧ cap = 0 ∧ zs = []) ∨
  ∃ x, a = some x ∧ len ≤ cap ∧ cap ≤ maxLen ∧ zs.length = cap ∧ (∀ i, i < zs.length → w.cell? (x.add i) = some (.int k (zs.getD i 0))) ∧ ∀ n ∈ zs, (Lit.int k n).wf = true
open YthaifibhflfpkaaW.PrintWords in
/-- Rows of bytes that came in. -/
def IsRows (w : World) (a : Option Addr) (len : Nat) (l : List (List Int)) : Prop := len = l.length ∧ Kd.C (Kd.slice 5 (Kd.int .u8)) w a l.length l ∧ ∀ b ∈ l, ∀ x ∈ b, 0 ≤ x ∧ x < 256
open YthaifibhflfpkaaW.PrintWords in
theorem rows_of {W : World} {H : Type} {enc : TypeId × Value → H} {base fuel : Nat} {held : Bool} {cs : List Value} {x : DataW H × List MemPlace}
    (h : DataW.trod enc Try.prog W base (fun _ => true) held fuel 23 cs = some x) : ∃ a len cap l, cs = [.slice a len cap] ∧ IsRows W a len l ∧ len ≤ cap := by
  rcases Go.Deep.open_int_rows Try.underlying23 Try.underlying22 Try.underlying5 (by kernel_rfl) (by kernel_rfl) h with ⟨rfl, _⟩ | ⟨a, len, cap, A, L, C, Z, rfl, hb, hl, hm, _, hr⟩
  · exact ⟨none, 0, 0, [], rfl, ⟨rfl, Kd.C_nil _ _, fun b hb => by simp at hb⟩, Nat.le_refl _⟩
  · refine ⟨some a, len, cap, (List.range len).map fun r => (Z r).take (L r), rfl, ⟨by simp, ?_, ?_⟩, hl⟩
    · refine ⟨rfl, by simp; unfold maxLen at hm; omega, fun _ => ⟨a, rfl, fun j p hj => ?_⟩⟩
      rw [List.getElem?_map, Option.map_eq_some_iff] at hj
      obtain ⟨r, hr1, rfl⟩ := hj
      obtain ⟨hj, hr2⟩ := List.getElem?_eq_some_iff.1 hr1
      rw [List.getElem_range] at hr2
      subst hr2
      have hlt : j < cap := by simp at hj; omega
      obtain ⟨h1, h2, h3, h4, h5, h6, h7⟩ := hr j hlt
      have hln : ((Z j).take (L j)).length = L j := by rw [List.length_take]; omega
      refine ⟨[.slice (A j) (L j) (C j)], rfl, ⟨A j, C j, by rw [hln], by rw [hln]; exact h2, ?_⟩, fun i u hu => ?_⟩
      · rw [hln]
        refine ⟨hln, by unfold maxLen at h3; omega, fun hp => ?_⟩
        cases hA : A j with
        | none =>
          have := h6 hA
          omega
        | some a' =>
          refine ⟨a', rfl, fun i p hi => ⟨[.int .u8 p], rfl, rfl, fun q u hu => ?_⟩⟩
          obtain ⟨hi1, hi2⟩ := List.getElem?_eq_some_iff.1 hi
          have hq : q = 0 := by
            have := (List.getElem?_eq_some_iff.1 hu).1
            simpa using this
          subst hq
          have hu' : Value.int .u8 p = u := by simpa using hu
          subst hu'
          have hc := (h7 a' hA).2 i (by rw [hln] at hi1; omega)
          rw [List.getElem_take] at hi2
          have hz : (Z j).getD i 0 = p := by
            rw [List.getD_eq_getElem?_getD, List.getElem?_eq_getElem (by rw [hln] at hi1; omega), Option.getD_some, hi2]
          rw [hz] at hc
          have e : i * (Kd.int .u8).sz + 0 = i := by
            show i * 1 + 0 = i
            omega
          rw [e]
          exact hc
      · have hq : i = 0 := by
          have := (List.getElem?_eq_some_iff.1 hu).1
          simpa using this
        subst hq
        have hu' : Value.slice (A j) (L j) (C j) = u := by simpa using hu
        subst hu'
        have e : j * (Kd.slice 5 (Kd.int .u8)).sz + 0 = j := by
          show j * 1 + 0 = j
          omega
        rw [e]
        exact h1
    · intro b hb x hx
      obtain ⟨r, hr1, rfl⟩ := List.mem_map.1 hb
      have hlt : r < cap := by have := List.mem_range.1 hr1; omega
      have hw := (hr r hlt).2.2.2.2.1 x (List.mem_of_mem_take hx)
      have hw2 : (decide ((0 : Int) ≤ x) && decide (x ≤ 255)) = true := hw
      simp at hw2
      omega
theorem one_le {H : Type} (d : DataW H) : 1 ≤ Rows.uptoBulk d := by
  cases d with
  | lit l => cases l <;> simp [Rows.uptoBulk]
  | nil => simp [Rows.uptoBulk]
  | ptr d => simp [Rows.uptoBulk]
  | slice elems spare => simp [Rows.uptoBulk]
  | agg parts => simp [Rows.uptoBulk]
  | iface t d => simp [Rows.uptoBulk]
  | map entries => simp [Rows.uptoBulk]
  | held h => simp [Rows.uptoBulk]
theorem length_le {H : Type} (l : List (DataW H)) : l.length ≤ Rows.uptoBulkAll l := by
  induction l with
  | nil => simp [Rows.uptoBulkAll]
  | cons x r ih => have := one_le x; simp only [Rows.uptoBulkAll, List.length_cons]; omega
/-- What the bound gives: the second argument's length. -/
theorem short {H : Type} {d0 : DataW H} {a b : List (DataW H)} (hk : Rows.uptoSmall H [d0, .slice a b] = true) : a.length ≤ 1048576 := by
  have h : Rows.uptoBulkAll [d0, .slice a b] ≤ 1048576 := of_decide_eq_true hk
  simp only [Rows.uptoBulkAll, Rows.uptoBulk] at h
  have := length_le a
  omega
open YthaifibhflfpkaaW.PrintWords in
theorem walk (a1 : Option Addr) (len1 cap1 : Nat) (l1 : List (List Int)) (a0 : Option Addr) (len0 cap0 : Nat) (z0 : List Int) (w : World) (w1 : IsRows w a1 len1 l1) (y1 : len1 ≤ cap1) (w0 : IsRow .u8 w a0 len0 cap0 z0) (y0 : len0 ≤ 1048576) :
    Calls Try.prog 5 #[.slice a1 len1 cap1, .slice a0 len0 cap0] w fun e w' => e = .returned (.bool true) ∧ Below w.heap.size w w' := by
  obtain ⟨l0, rfl, hr0, hm0, hw0, hc0⟩ := ReadsInt.ofRowC w0
  obtain ⟨rfl, hC1, hb1⟩ := w1
  obtain ⟨k, h⟩ := (Q.Law.back l1 hb1 l0 (by omega)).rounds
  exact Q.w11_TextsBack.calls k _ _ l1 _ _ l0 true w hC1 y1 (Kd.C_of_reads (d := (0 : Int)) (h1 := fun _ => rfl) hr0) hc0 h
open YthaifibhflfpkaaW in
set_option maxRecDepth 100000 in
theorem lifted (os : Os) (started : os.Started) (H : Type) (enc : TypeId × Value → H) (F : Stop.Interp) :
    ReturnsInHanded {} Try.checked os 5 .any ((Rows.OpenSpec.upto Rows.textsBackSpec).pre6 enc Try.prog Try.f5 Rows.textsBackUptoRow.domain false) (((Rows.OpenSpec.upto Rows.textsBackSpec).at F).post enc Try.prog Try.f5 false true false false) := by
  refine returnsInHanded_of_cond (C := Try.checked) (s := Rows.OpenSpec.upto Rows.textsBackSpec) (k := Rows.uptoSmall) rfl own started (by kernel_rfl) Try.func5
    (OpenSpec.witness (enc := enc) (C := Try.checked) (s := Rows.OpenSpec.upto Rows.textsBackSpec) (k := Rows.uptoSmall) rfl false ⟨#[], #[.slice none 0 0, .slice none 0 0], []⟩ 8 (by kernel_rfl) (by kernel_rfl) (by kernel_rfl)
      (x := ([.nil, .nil], [], [])) (by kernel_rfl) rfl (by kernel_rfl)) ?_
  intro W base args ds gs before hval0 hW _ hk0 _
  have hval : ∀ (j : Nat) t v, Try.f5.params[j]? = some t → args[j]? = some v → Value.okWide Try.prog W .any base t v := hval0
  have hk : Rows.uptoSmall H (ds ++ gs) = true := hk0
  clear hk0
  have hW' := hW
  obtain ⟨p, q, hA0, hV, rfl, hfz, hnd⟩ := hW
  have hA : DataW.TrodAll enc Try.prog W 0 (fun _ => true) true Try.f5.params.toList args.toList ds p := hA0
  rw [Try.params5] at hA hval
  obtain ⟨v1, vs1, d1, ds1, p1, q1, hargs, rfl, rfl, h1, r1⟩ := trodAll_cons hA
  obtain ⟨v0, vs0, d0, ds0, p0, q0, rfl, rfl, rfl, h0, r0⟩ := trodAll_cons r1
  obtain ⟨rfl, rfl, rfl⟩ := trodAll_nil r0
  obtain rfl : args = #[v1, v0] := by cases args; simp_all
  obtain ⟨rfl, rfl⟩ := trodVars_none hV
  simp only [List.append_nil] at hk
  obtain ⟨a1, len1, cap1, rfl⟩ := okWide_slice Try.underlying23 (hval 0 23 v1 rfl rfl)
  have k1 := h1
  have lt1 : ∀ x ∈ p1, x.block < W.heap.size := by obtain ⟨m, hm⟩ := k1; exact DataW.trod_lt m _ _ _ hm
  obtain ⟨l1, w1, y1⟩ : ∃ l1, IsRows W a1 len1 l1 ∧ len1 ≤ cap1 := by
    obtain ⟨fuel, hf⟩ := h1
    obtain ⟨a, len, cap, l, hcs, hl, hc⟩ := rows_of hf
    simp [Value.cells] at hcs
    obtain ⟨rfl, rfl, rfl⟩ := hcs
    exact ⟨l, hl, hc⟩
  obtain ⟨a0, len0, cap0, rfl⟩ := okWide_slice Try.underlying22 (hval 1 22 v0 rfl rfl)
  have k0 := h0
  have lt0 : ∀ x ∈ p0, x.block < W.heap.size := by obtain ⟨m, hm⟩ := k0; exact DataW.trod_lt m _ _ _ hm
  obtain ⟨z0, w0, y0⟩ : ∃ zs, IsRow .u8 W a0 len0 cap0 zs ∧ len0 ≤ 1048576 := by
    obtain ⟨fuel, hf⟩ := h0
    rcases open_ints Try.underlying22 Try.underlying5 (by kernel_rfl) hf with ⟨hcs, _⟩ | ⟨x, l, c, zs, hcs, _, hl, hm, hz, hx, hcell, hwz⟩
    · simp [Value.cells] at hcs
      obtain ⟨rfl, rfl, rfl⟩ := hcs
      exact ⟨[], .inl ⟨rfl, rfl, rfl, rfl⟩, Nat.zero_le _⟩
    · simp [Value.cells] at hcs
      obtain ⟨rfl, rfl, rfl⟩ := hcs
      have hzl : zs.length = cap0 := by simpa using hz
      have hd : d0 = .slice (lits .u8 (zs.take len0)) (lits .u8 (zs.drop len0)) := congrArg Prod.fst hx
      rw [hd] at hk
      have hs := short hk
      have hll : (lits (H := H) .u8 (zs.take len0)).length = len0 := by
        unfold lits
        rw [List.length_map, List.length_take]
        omega
      exact ⟨zs, .inr ⟨_, rfl, hl, hm, hzl, hcell, hwz⟩, by omega⟩
  clear hA0 hval0 hk
  refine (walk a1 len1 cap1 l1 a0 len0 cap0 z0 W w1 y1 w0 y0).mono fun e W' ⟨he, bel⟩ => ?_
  subst he
  exact ⟨_, rfl, _, _, _, [], _, [], hW', trodAll_mk1 (shut_bool Try.underlying4 _), (trodAll_cons_mk (Below.trod laidOut (by kernel_rfl) (of_decide_eq_true (by kernel_rfl)) k1 bel lt1) (trodAll_cons_mk (Below.trod laidOut (by kernel_rfl) (of_decide_eq_true (by kernel_rfl)) k0 bel lt0) trodAll_mk0)), rfl, bel.frame _, fun h => by cases h⟩
theorem proved : Rows.TextsBackUptoSaid :=
  OpenClaim.holds_of_cond 5 Try.f5 rfl rfl rfl rfl rfl rfl rfl ⟨rfl, rfl, rfl, rfl, rfl⟩ rfl rfl rfl rfl rfl (by kernel_rfl) Try.func5 (by kernel_rfl)
    (of_decide_eq_true (by kernel_rfl)) (by unfold Func.isWrapper; first | (rw [if_pos (by decide +kernel)]; kernel_rfl) | (rw [if_neg (by decide +kernel)]; exact ⟨rfl, rfl⟩))
    (fun os started H enc _ F => lifted os started H enc F)
#print axioms proved
end Go.Proofs.Ythaifibhflfpkaa.textsBack
namespace Go.Proofs.Ythaifibhflfpkaa
/-- The row, under a short name, for the claim. -/
theorem textsBackUpto_holds : Rows.TextsBackUptoSaid := textsBack.proved
end Go.Proofs.Ythaifibhflfpkaa
