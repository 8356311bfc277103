/- Whatever lines and bytes are handed to the law's function TextsPuts: it returns true, and what was handed in reads as it did. No condition. -/
import Derived.Test.YthaifibhflfpkaaRows
import Derived.Test.YthaifibhflfpkaaTp15
import Derived.WalkKit
import Derived.ProofKit
import Derived.OpenShut
import Derived.ShutString
import Derived.ChangeOld
import Derived.Below
import Derived.SizedLaws
import Derived.Deep.Matrix
namespace Go.Proofs.Ythaifibhflfpkaa.textsPuts
open Go.ChangeShapes Go.WideShapes Go.ChangeAt Go.RowKit
open Go.ChangeMaps (open_string shut_string)
set_option linter.unusedVariables false
theorem own : ownKnob Try.prog.godebug = none := by kernel_rfl
theorem laidOut : laidOutB Try.prog = true := by kernel_rfl
def IsRow (k : IntKind) (w : World) (a : Option Addr) (len cap : Nat) (zs : List Int) : Prop :=
  (a = none ∧ len = 0 ∧ cap = 0 ∧ zs = []) ∨
  ∃ x, a = some x ∧ len ≤ cap ∧ cap ≤ maxLen ∧ zs.length = cap ∧ (∀ i, i < zs.length → w.cell? (x.add i) = some (.int k (zs.getD i 0))) ∧ ∀ n ∈ zs, (Lit.int k n).wf = true
open YthaifibhflfpkaaW.PrintWords in
/-- Rows of bytes that came in. -/
def IsRows (w : World) (a : Option Addr) (len : Nat) (l : List (List Int)) : Prop := len = l.length ∧ Kd.C (Kd.slice 5 (Kd.int .u8)) w a l.length l ∧ ∀ b ∈ l, ∀ x ∈ b, 0 ≤ x ∧ x < 256
open YthaifibhflfpkaaW.PrintWords in
theorem rows_of {W : World} {H : Type} {enc : TypeId × Value → H} {base fuel : Nat} {held : Bool} {cs : List Value} {x : DataW H × List MemPlace}
    (h : DataW.trod enc Try.prog W base (fun _ => true) held fuel 23 cs = some x) : ∃ a len cap l, cs = [.slice a len cap] ∧ IsRows W a len l ∧ len ≤ cap := by
  rcases Go.Deep.open_int_rows Try.underlying23 Try.underlying22 Try.underlying5 (by kernel_rfl) (by kernel_rfl) h with ⟨rfl, _⟩ | ⟨a, len, cap, A, L, C, Z, rfl, hb, hl, hm, _, hr⟩
  · exact ⟨none, 0, 0, [], rfl, ⟨rfl, Kd.C_nil _ _, fun b hb => by simp at hb⟩, Nat.le_refl _⟩
  · refine ⟨some a, len, cap, (List.range len).map fun r => (Z r).take (L r), rfl, ⟨by simp, ?_, ?_⟩, hl⟩
    · refine ⟨rfl, by simp; unfold maxLen at hm; omega, fun _ => ⟨a, rfl, fun j p hj => ?_⟩⟩
      rw [List.getElem?_map, Option.map_eq_some_iff] at hj
      obtain ⟨r, hr1, rfl⟩ := hj
      obtain ⟨hj, hr2⟩ := List.getElem?_eq_some_iff.1 hr1
      rw [List.getElem_range] at hr2
      subst hr2
      have hlt : j < cap := by simp at hj; omega
      obtain ⟨h1, h2, h3, h4, h5, h6, h7⟩ := hr j hlt
      have hln : ((Z j).take (L j)).length = L j := by rw [List.length_take]; omega
      refine ⟨[.slice (A j) (L j) (C j)], rfl, ⟨A j, C j, by rw [hln], by rw [hln]; exact h2, ?_⟩, fun i u hu => ?_⟩
      · rw [hln]
        refine ⟨hln, by unfold maxLen at h3; omega, fun hp => ?_⟩
        cases hA : A j with
        | none =>
          have := h6 hA
          omega
        | some a' =>
          refine ⟨a', rfl, fun i p hi => ⟨[.int .u8 p], rfl, rfl, fun q u hu => ?_⟩⟩
          obtain ⟨hi1, hi2⟩ := List.getElem?_eq_some_iff.1 hi
          have hq : q = 0 := by
            have := (List.getElem?_eq_some_iff.1 hu).1
            simpa using this
          subst hq
          have hu' : Value.int .u8 p = u := by simpa using hu
          subst hu'
          have hc := (h7 a' hA).2 i (by rw [hln] at hi1; omega)
          rw [List.getElem_take] at hi2
          have hz : (Z j).getD i 0 = p := by
            rw [List.getD_eq_getElem?_getD, List.getElem?_eq_getElem (by rw [hln] at hi1; omega), Option.getD_some, hi2]
          rw [hz] at hc
          have e : i * (Kd.int .u8).sz + 0 = i := by
            show i * 1 + 0 = i
            omega
          rw [e]
          exact hc
      · have hq : i = 0 := by
          have := (List.getElem?_eq_some_iff.1 hu).1
          simpa using this
        subst hq
        have hu' : Value.slice (A j) (L j) (C j) = u := by simpa using hu
        subst hu'
        have e : j * (Kd.slice 5 (Kd.int .u8)).sz + 0 = j := by
          show j * 1 + 0 = j
          omega
        rw [e]
        exact h1
    · intro b hb x hx
      obtain ⟨r, hr1, rfl⟩ := List.mem_map.1 hb
      have hlt : r < cap := by have := List.mem_range.1 hr1; omega
      have hw := (hr r hlt).2.2.2.2.1 x (List.mem_of_mem_take hx)
      have hw2 : (decide ((0 : Int) ≤ x) && decide (x ≤ 255)) = true := hw
      simp at hw2
      omega
open YthaifibhflfpkaaW.PrintWords in
theorem walk (a0 : Option Addr) (len0 cap0 : Nat) (z0 : List Int) (a1 : Option Addr) (len1 cap1 : Nat) (l1 : List (List Int)) (w : World) (w0 : IsRow .u8 w a0 len0 cap0 z0) (y0 : len0 * 1 ≤ 140737488351232) (w1 : IsRows w a1 len1 l1) (y1 : len1 ≤ cap1) :
    Calls Try.prog 3 #[.slice a0 len0 cap0, .slice a1 len1 cap1] w fun e w' => e = .returned (.bool true) ∧ Below w.heap.size w w' := by
  obtain ⟨l0, rfl, hr0, hm0, hw0, hc0⟩ := ReadsInt.ofRowC w0
  obtain ⟨rfl, hC1, hb1⟩ := w1
  obtain ⟨k, h⟩ := (Q.Law.puts l0 (by omega) l1 hb1).rounds
  exact Q.w11_TextsPuts.calls k _ _ l0 _ _ l1 true w (Kd.C_of_reads (d := (0 : Int)) (h1 := fun _ => rfl) hr0) hc0 hC1 y1 h
open YthaifibhflfpkaaW in
set_option maxRecDepth 100000 in
theorem lifted (os : Os) (started : os.Started) (H : Type) (enc : TypeId × Value → H) :
    ReturnsInHanded {} Try.checked os 3 .any (Rows.textsPutsSpec.pre6 enc Try.prog Try.f3 Rows.textsPutsRow.domain false) (Rows.textsPutsSpec.post enc Try.prog Try.f3 false true false false) := by
  refine returnsInHanded_of_change_sized (C := Try.checked) own started (by kernel_rfl) Try.func3
    (ChangeSpec.witness6 (enc := enc) (C := Try.checked) false ⟨#[], #[.slice none 0 0, .slice none 0 0], []⟩ 8 (by kernel_rfl) (by kernel_rfl) (by kernel_rfl) (by kernel_rfl)) ?_
  intro W base args ds gs before hval0 hW hcnd hsz0 _
  have hsz : (DataW.weightsEach Try.prog (Try.f3.params.toList ++ Rows.textsPutsSpec.plain.varTypes Try.prog) (ds ++ gs)).all (· ≤ reachBytes) = true := hsz0
  have hval : ∀ (j : Nat) t v, Try.f3.params[j]? = some t → args[j]? = some v → Value.okWide Try.prog W .any base t v := hval0
  have hW' := hW
  obtain ⟨p, q, hA0, hV, rfl, hfz, hnd⟩ := hW
  have hA : DataW.TrodAll enc Try.prog W 0 (fun _ => true) true Try.f3.params.toList args.toList ds p := hA0
  rw [Try.params3] at hA hval hsz
  obtain ⟨v0, vs0, d0, ds0, p0, q0, hargs, rfl, rfl, h0, r0⟩ := trodAll_cons hA
  obtain ⟨v1, vs1, d1, ds1, p1, q1, rfl, rfl, rfl, h1, r1⟩ := trodAll_cons r0
  obtain ⟨rfl, rfl, rfl⟩ := trodAll_nil r1
  obtain rfl : args = #[v0, v1] := by cases args; simp_all
  obtain ⟨rfl, rfl⟩ := trodVars_none hV
  obtain ⟨a0, len0, cap0, rfl⟩ := okWide_slice Try.underlying22 (hval 0 22 v0 rfl rfl)
  have k0 := h0
  have lt0 : ∀ x ∈ p0, x.block < W.heap.size := by obtain ⟨m, hm⟩ := k0; exact DataW.trod_lt m _ _ _ hm
  obtain ⟨z0, w0⟩ : ∃ zs, IsRow .u8 W a0 len0 cap0 zs := by
    obtain ⟨fuel, hf⟩ := h0
    rcases open_ints Try.underlying22 Try.underlying5 (by kernel_rfl) hf with ⟨hcs, _⟩ | ⟨x, l, c, zs, hcs, _, hl, hm, hz, _, hcell, hwz⟩
    · simp [Value.cells] at hcs
      obtain ⟨rfl, rfl, rfl⟩ := hcs
      exact ⟨[], .inl ⟨rfl, rfl, rfl, rfl⟩⟩
    · simp [Value.cells] at hcs
      obtain ⟨rfl, rfl, rfl⟩ := hcs
      exact ⟨zs, .inr ⟨_, rfl, hl, hm, by simpa using hz, hcell, hwz⟩⟩
  have y0 : len0 * 1 ≤ 140737488351232 := PrintWords.sized_ints hsz (j := 0) (t := 22) rfl rfl Try.underlying22 Try.underlying5 (by kernel_rfl) (by kernel_rfl) h0
  obtain ⟨a1, len1, cap1, rfl⟩ := okWide_slice Try.underlying23 (hval 1 23 v1 rfl rfl)
  have k1 := h1
  have lt1 : ∀ x ∈ p1, x.block < W.heap.size := by obtain ⟨m, hm⟩ := k1; exact DataW.trod_lt m _ _ _ hm
  obtain ⟨l1, w1, y1⟩ : ∃ l1, IsRows W a1 len1 l1 ∧ len1 ≤ cap1 := by
    obtain ⟨fuel, hf⟩ := h1
    obtain ⟨a, len, cap, l, hcs, hl, hc⟩ := rows_of hf
    simp [Value.cells] at hcs
    obtain ⟨rfl, rfl, rfl⟩ := hcs
    exact ⟨l, hl, hc⟩
  clear hA0 hval0 hsz0 hsz
  refine (walk a0 len0 cap0 z0 a1 len1 cap1 l1 W w0 y0 w1 y1).mono fun e W' ⟨he, bel⟩ => ?_
  subst he
  exact ⟨_, rfl, _, _, _, [], _, [], hW', trodAll_mk1 (shut_bool Try.underlying4 _), (trodAll_cons_mk (Below.trod laidOut (by kernel_rfl) (of_decide_eq_true (by kernel_rfl)) k0 bel lt0) (trodAll_cons_mk (Below.trod laidOut (by kernel_rfl) (of_decide_eq_true (by kernel_rfl)) k1 bel lt1) trodAll_mk0)), rfl, bel.frame _, fun h => by cases h⟩
theorem over : Rows.textsPutsRow.holds Try.pinned (OpenSpec.ofChange Rows.textsPutsSpec) :=
  OpenClaim.holds_of_wide 3 Try.f3 rfl rfl rfl rfl rfl rfl rfl ⟨rfl, rfl, rfl, rfl, rfl⟩ rfl rfl rfl rfl rfl (by kernel_rfl) Try.func3 (by kernel_rfl)
    (of_decide_eq_true (by kernel_rfl)) (by unfold Func.isWrapper; first | (rw [if_pos (by decide +kernel)]; kernel_rfl) | (rw [if_neg (by decide +kernel)]; exact ⟨rfl, rfl⟩))
    (fun os started H enc _ => lifted os started H enc)
theorem proved : Rows.TextsPutsSaid := over
#print axioms proved
end Go.Proofs.Ythaifibhflfpkaa.textsPuts
namespace Go.Proofs.Ythaifibhflfpkaa
/-- The row, under a short name, for the claim. -/
theorem textsPuts_holds : Rows.TextsPutsSaid := textsPuts.proved
end Go.Proofs.Ythaifibhflfpkaa
