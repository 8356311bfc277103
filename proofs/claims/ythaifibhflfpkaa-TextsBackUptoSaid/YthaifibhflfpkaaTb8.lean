/- A part of the claim's own texts: words, walks and plain laws. -/
import Derived.Test.YthaifibhflfpkaaTb2
import Derived.Test.YthaifibhflfpkaaTb7
import Derived.Test.YthaifibhflfpkaaTb5
import Derived.Lib.Hide
import Derived.Test.YthaifibhflfpkaaTb3
import Derived.Lib.SliceRun
section
namespace Go.Proofs.Ythaifibhflfpkaa.Q
open Go.RowKit Go.Proofs.YthaifibhflfpkaaW.PrintWords Go.Proofs.YthaifibhflfpkaaW.PrintLast Go.Proofs.YthaifibhflfpkaaW.PrintMore Go.Proofs.YthaifibhflfpkaaX
attribute [local go_sem] max2_int min2_int max_two min_two max_three min_three max_four min_four   -- for this text's walks alone
set_option linter.unusedVariables false
set_option linter.unusedSimpArgs false
def lz_Pack.layT (n : Nat) : List Int := List.replicate (n / 255) 255 ++ [((n % 255 : Nat) : Int)]
def lz_Pack.litT (lits : List Int) (m : Nat) : List Int := ((16 * min lits.length 15 + min m 15 : Nat) : Int) :: ((if 15 ≤ lits.length then lz_Pack.layT (lits.length - 15) else []) ++ lits)
def lz_Pack.keyAt (l : List Int) (i : Nat) : Int := (lz_key.f (l.drop i)).getD 0
def lz_Pack.lastAt (l : List Int) : Nat → Int → Option Int
 | 0 => fun _ => none
 | n + 1 => upd (lz_Pack.lastAt l n) (lz_Pack.keyAt l n) n
def lz_Pack.run (l : List Int) (i k : Nat) : Nat → Nat → Nat
 | 0, n => n
 | f + 1, n => if i + n < l.length ∧ rd l (i + n : Nat) = rd l (k + n : Nat) then lz_Pack.run l i k f (n + 1) else n
def lz_Pack.part (lits : List Int) (d n : Nat) : List Int := lz_Pack.litT lits (n - 4) ++ ([((d % 256 : Nat) : Int), ((d / 256 % 256 : Nat) : Int)] ++ (if 19 ≤ n then lz_Pack.layT (n - 19) else []))
def lz_Pack.go (l : List Int) : Nat → Nat → Nat → List Int → List Int
 | 0, _, _, out => out
 | f + 1, fr, i, out => if i + 4 ≤ l.length then
   match lz_Pack.lastAt l i (lz_Pack.keyAt l i) with
   | some k => if i - k.toNat > 65535 then lz_Pack.go l f fr (i + 1) out else
     lz_Pack.go l f (i + lz_Pack.run l i k.toNat l.length 4) (i + lz_Pack.run l i k.toNat l.length 4) (out ++ lz_Pack.part ((l.take i).drop fr) (i - k.toNat) (lz_Pack.run l i k.toNat l.length 4))
   | none => lz_Pack.go l f fr (i + 1) out
  else out ++ lz_Pack.litT (l.drop fr) 0
def lz_Pack.f (l0 : List Int) : Option (List Int) := if l0.length < 10000000000000 then some (lz_Pack.go l0 (l0.length + 1) 0 0 []) else none
theorem lz_Pack.lay_eq : ∀ (k : Nat) (b : List Int) (n : Nat), n / 255 < k → b.length + n / 255 < 140737488355328 → n < 140737488355328 → lz_lay.f k b (n : Int) = some (b ++ lz_Pack.layT n)
 | 0, _, _, h, _, _ => absurd h (by omega)
 | k + 1, b, n, h, hb, hn => by
  show lz_lay.l0 (k + 1) b n = _
  unfold lz_lay.l0
  by_cases h1 : (n : Int) ≥ 255
  ·
   rw [if_pos h1, if_pos (by omega)]
   have e1 : wrap64 ((n : Int) - 255) = ((n - 255 : Nat) : Int) := by unfold wrap64; omega
   have ih := lz_Pack.lay_eq k (b ++ [255]) (n - 255) (by omega) (by simp only [List.length_append, List.length_singleton]; omega) (by omega)
   rw [e1]
   refine (show lz_lay.l0 k (b ++ [255]) _ = _ from ih).trans ?_
   unfold lz_Pack.layT
   have e2 : n / 255 = (n - 255) / 255 + 1 := by omega
   have e3 : (n - 255) % 255 = n % 255 := by omega
   rw [e2, e3, List.replicate_succ]
   simp
  ·
   rw [if_neg h1, if_pos (by omega)]
   unfold lz_Pack.layT
   have e2 : n / 255 = 0 := by omega
   have e3 : (n : Int) % 256 = ((n % 255 : Nat) : Int) := by omega
   rw [e2, e3]
   rfl
theorem lz_Pack.or16 : ∀ a, a < 16 → ∀ b, b < 16 → Go.bits .or .i64 (((a : Nat) : Int) * 16) ((b : Nat) : Int) % 256 = ((16 * a + b : Nat) : Int) := by decide
theorem lz_Pack.lit_eq (k : Nat) (out lits : List Int) (m : Nat) (hk : lits.length / 255 < k) (hl : out.length + 2 * lits.length + 10 < 140737488355328) (hm : m < 140737488355328) : lz_literals.f k out lits (m : Int) = some (out ++ lz_Pack.litT lits m) := by
 unfold lz_literals.f
 have e1 : mn (lits.length : Int) 15 = ((min lits.length 15 : Nat) : Int) := by unfold mn; split <;> omega
 have e2 : mn (m : Int) 15 = ((min m 15 : Nat) : Int) := by unfold mn; split <;> omega
 rw [if_pos (by omega), Option.bind_some, e1, e2, lz_Pack.or16 _ (by omega) _ (by omega)]
 unfold lz_Pack.litT
 by_cases h : 15 ≤ lits.length
 ·
  have e3 : min lits.length 15 = 15 := by omega
  rw [e3, if_pos (by rfl), if_pos h]
  have e4 : wrap64 ((lits.length : Int) - 15) = ((lits.length - 15 : Nat) : Int) := by unfold wrap64; omega
  rw [e4, lz_Pack.lay_eq k _ _ (by omega) (by simp only [List.length_append, List.length_singleton]; omega) (by omega), Option.bind_some]
  have hll : (lz_Pack.layT (lits.length - 15)).length = (lits.length - 15) / 255 + 1 := by unfold lz_Pack.layT; simp
  rw [if_pos (by simp only [List.length_append, List.length_singleton, hll]; omega)]
  simp
 ·
  rw [if_neg (by omega), if_neg h, if_pos (by simp only [List.length_append, List.length_singleton]; omega)]
  simp
theorem lz_Pack.layT_len (n : Nat) : (lz_Pack.layT n).length = n / 255 + 1 := by unfold lz_Pack.layT; simp
theorem lz_Pack.litT_len (lits : List Int) (m : Nat) : (lz_Pack.litT lits m).length ≤ 2 + 2 * lits.length := by
 unfold lz_Pack.litT
 simp only [List.length_cons, List.length_append]
 split
 · rw [lz_Pack.layT_len]; omega
 · simp; omega
theorem lz_Pack.part_len (lits : List Int) (d n : Nat) (hn : 4 ≤ n) : (lz_Pack.part lits d n).length ≤ 2 * lits.length + 3 * n := by
 unfold lz_Pack.part
 have := lz_Pack.litT_len lits (n - 4)
 simp only [List.length_append, List.length_cons, List.length_nil]
 split
 · rw [lz_Pack.layT_len]; omega
 · simp; omega
theorem lz_Pack.run_le (l : List Int) (i k : Nat) : ∀ f n, i + n ≤ l.length → n ≤ lz_Pack.run l i k f n ∧ i + lz_Pack.run l i k f n ≤ l.length
 | 0, n, h => ⟨Nat.le_refl _, h⟩
 | f + 1, n, h => by
  unfold lz_Pack.run
  split
  ·
   rename_i hc
   have := lz_Pack.run_le l i k f (n + 1) (by omega)
   omega
  · exact ⟨Nat.le_refl _, h⟩
theorem lz_Pack.last_lt (l : List Int) (y k : Int) : ∀ n, lz_Pack.lastAt l n y = some k → 0 ≤ k ∧ k < n
 | 0, h => by simp [lz_Pack.lastAt] at h
 | n + 1, h => by
  simp only [lz_Pack.lastAt, upd] at h
  split at h
  ·
   injection h with h
   omega
  ·
   have := lz_Pack.last_lt l y k n h
   omega
theorem lz_Pack.key_some (l : List Int) (i : Nat) (h : i + 4 ≤ l.length) : lz_key.f (l.drop i) = some (lz_Pack.keyAt l i) ∧ 0 ≤ lz_Pack.keyAt l i ∧ lz_Pack.keyAt l i ≤ 4294967295 := by
 have hl : (l.drop i).length = l.length - i := List.length_drop
 have e : lz_key.f (l.drop i) = some (lz_Pack.keyAt l i) := by
  unfold lz_Pack.keyAt lz_key.f
  rw [if_pos (by omega), if_pos (by omega), if_pos (by omega), if_pos (by omega)]
  rfl
 refine ⟨e, ?_⟩
 unfold lz_key.f at e
 rw [if_pos (by omega), if_pos (by omega), if_pos (by omega), if_pos (by omega)] at e
 injection e with e
 rw [← e]
 exact bits32_range _ _ _
set_option maxHeartbeats 8000000 in
set_option maxRecDepth 100000 in
theorem lz_Pack.calls (A0 : Option Addr) (c0 : Nat) (l0 : List Int) (r : List Int) (w : World) (hr0 : Kd.C (Kd.int .u8) w A0 l0.length l0) (hc0 : l0.length ≤ c0) (h : lz_Pack.f l0 = some r) :
  Calls Try.prog 17 #[.slice A0 l0.length c0] w fun e w' => ∃ v0_ : Value, e = .returned (v0_) ∧ Kd.R (Kd.int .u8) 5 w' w.heap.size (fun _ => True) v0_ r ∧ Below w.heap.size w w' := by
 have HR0 := aM hr0
 have HC0 := aM hc0
 clear hr0 hc0
 have HB := aM (Below.refl w.heap.size w)
 have HT : Aside0 (Try.prog.underlying 58 = some (.map 59 3)) := ⟨by kernel_rfl⟩
 have HE : Aside0 (Try.prog.underlying 3 = some (.int .i64)) := ⟨by kernel_rfl⟩
 have HU : Aside0 (Try.prog.underlying 59 = some (.int .u32)) := ⟨by kernel_rfl⟩
 have HZ : Aside0 (∀ w : World, (zeroValue 3).run Try.prog w = .ok (.int .i64 0) w) := ⟨fun w => by kernel_rfl⟩
 obtain ⟨i05, hi05', _, hsz5', _⟩ := info_parts info5
 have HI5 := aM hi05'
 have HSZ5 := aM hsz5'
 clear hi05' hsz5'
 unfold lz_Pack.f at h
 split at h
 case isFalse => exact absurd h (by simp)
 case isTrue hlim =>
 have HLIM := aM hlim
 have HV := aM (Option.some.inj h)
 clear h hlim
 have hmm := @run_makeMap Try.prog
 go_enter Try.func17, Try.ntmps17
 go_wp2
 go_loopg [3, 5, 6, 7] (l0.length + 1) (fun kq v3 v5 v6 v7 w' => ∃ (out : List Int) (sn fr ix : Int), v5 = .int .i64 sn ∧ v6 = .int .i64 fr ∧ v7 = .int .i64 ix ∧ Aside0 (0 ≤ sn ∧ sn ≤ ix ∧ 0 ≤ fr ∧ fr ≤ ix ∧ ix ≤ l0.length ∧ (l0.length : Int) < kq + ix) ∧ Aside0 ((out.length : Int) ≤ 3 * fr) ∧ Aside0 (lz_Pack.go l0 kq fr.toNat ix.toNat out = r) ∧ Aside0 (Kd.R (Kd.int .u8) 5 w' w.heap.size (fun _ => True) v3 out) ∧ Aside0 (MapF Try.prog 59 3 (Lit.int .u32) (Lit.int .i64) w' w.heap.size sn.toNat (lz_Pack.lastAt l0 sn.toNat)) ∧ Aside0 (Below w.heap.size w w'))
 case atStart => exact ⟨[], 0, 0, 0, rfl, rfl, rfl, ⟨by omega⟩, ⟨by simp⟩, ⟨HV.out⟩, ⟨Kd.R_nil _ _ _ _ _⟩, ⟨MapF.made _ _ _ _ _ _⟩, ⟨below_alloc (Below.refl _ _) _⟩⟩
 case round =>
  clear HB hmm
  obtain ⟨out, sn, fr, ix, rfl, rfl, rfl, HI, HOL, HQ, HO, HM, HB⟩ := hrel
  cases gk with
  | zero => exact absurd HI.out (by omega)
  | succ k1 =>
  have HW1 : Aside0 (wrap64 ((l0.length : Int) - ix) = (l0.length : Int) - ix) := ⟨by have := HI.out; have := HLIM.out; unfold wrap64; omega⟩
  by_cases hend : (l0.length : Int) - ix < 4
  ·
   have c1 : decide (4 ≤ wrap64 ((l0.length : Int) - ix)) = false := decide_eq_false (by rw [HW1.out]; omega)
   have HEND := aM hend
   clear hend
   have HV2 : Aside0 (lz_literals.f (l0.length + 1) out (l0.drop fr.toNat) 0 = some r) := ⟨by
    have hi := HI.out
    have hq := HQ.out
    rw [lz_Pack.go, if_neg (by have := HEND.out; omega)] at hq
    have := lz_Pack.lit_eq (l0.length + 1) out (l0.drop fr.toNat) 0 (by rw [List.length_drop]; omega) (by have := HOL.out; have := HLIM.out; rw [List.length_drop]; omega) (by omega)
    rw [← hq]
    exact this⟩
   have hi05 := HI5.out
   have hsz5 := HSZ5.out
   have g1 := HI.out.2.2.1
   have g2 : fr ≤ (l0.length : Int) := by have := HI.out; omega
   obtain ⟨A1, c1, hcut1, hr1, hcc1⟩ := cut_nums_from (P := Try.prog) .u8 22 5 Try.underlying22 hi05 hsz5 HR0.out HC0.out fr g1 g2
   obtain ⟨y1, hy1⟩ : ∃ y, y = l0.drop (fr).toNat := ⟨_, rfl⟩
   rw [← hy1] at hcut1 hr1 hcc1
   have HR1 := aM hr1
   have HC1 := aM hcc1
   have HY1 := aM hy1
   clear hr1 hcc1 hy1
   rw [← HY1.out] at HV2
   have g3 := eq_true g1
   have g4 := eq_true g2
   clear g1 g2 hi05 hsz5
   go_wp2_with (first | ((with_reducible refine gate_callee (f := 39) rfl ?_); refine goesL_ (some 106) rfl rfl Try.func39 (by kernel_rfl) rfl #[u3, .slice A1 y1.length c1, .int .i64 0] rfl (by (try simp only [List.map_toArray, List.map_cons, List.map_nil]); first | done | rfl) ?_; (with_reducible refine (lz_literals.calls (l0.length + 1) (fun k_ => some k_ = u3.ownBlock) u3 out _ _ y1 0 r w _ ?side1 ?side2 ?side3 ?side4 HV2.out).mono ?_); (case side1 => exact HB.out); (case side2 => exact Kd.R_tight rfl HO.out); (case side3 => exact Kd.C_kept_came (Kd.heap_int .u8) HR1.out HB.out (fun k hk => Kd.R_base HO.out k hk.symm)); (case side4 => exact HC1.out); rintro e w2 ⟨v2, rfl, ho2, hb2, hk2⟩; refine ⟨_, rfl, ?_⟩; have HO2 := aM (Kd.R_mono (ok' := fun _ => True) ho2 (fun _ _ => trivial)); have HB2 := aM hb2; clear ho2 hb2 hk2))
   go_ret
   exact ⟨_, rfl, HO2.out, HB2.out⟩
  ·
   have c1 : decide (4 ≤ wrap64 ((l0.length : Int) - ix)) = true := decide_eq_true (by rw [HW1.out]; omega)
   have HGE : Aside0 (ix + 4 ≤ l0.length) := ⟨by omega⟩
   clear hend
   go_wp2
   go_loopg [5] (ix - sn).toNat (fun kq v5 w' => ∃ sn : Int, v5 = .int .i64 sn ∧ Aside0 (0 ≤ sn ∧ sn ≤ ix ∧ (kq : Int) + sn = ix) ∧ Aside0 (Kd.R (Kd.int .u8) 5 w' w.heap.size (fun _ => True) u3 out) ∧ Aside0 (MapF Try.prog 59 3 (Lit.int .u32) (Lit.int .i64) w' w.heap.size sn.toNat (lz_Pack.lastAt l0 sn.toNat)) ∧ Aside0 (Below w.heap.size w w'))
   case atStart => exact ⟨sn, rfl, ⟨by have := HI.out; omega⟩, HO, HM, HB⟩
   case round =>
    clear HO HM HB
    have HI0 : Aside0 (0 ≤ fr ∧ fr ≤ ix ∧ ix ≤ l0.length ∧ (l0.length : Int) < (k1 + 1 : Nat) + ix) := ⟨by have := HI.out; omega⟩
    clear HI
    obtain ⟨sn, rfl, HI, HO, HM, HB⟩ := hrel
    have hi05 := HI5.out
    have hsz5 := HSZ5.out
    cases gk with
    | succ k2 =>
     have c2 : decide (sn < ix) = true := decide_eq_true (by have := HI.out; omega)
     have g1 := HI.out.1
     have g2 : sn ≤ (l0.length : Int) := by have := HI.out; have := HI0.out; omega
     obtain ⟨A2, c2, hcut2, hr2, hcc2⟩ := cut_nums_from (P := Try.prog) .u8 22 5 Try.underlying22 hi05 hsz5 HR0.out HC0.out sn g1 g2
     obtain ⟨y2, hy2⟩ : ∃ y, y = l0.drop (sn).toNat := ⟨_, rfl⟩
     rw [← hy2] at hcut2 hr2 hcc2
     have HR2 := aM hr2
     have HC2 := aM hcc2
     have HY2 := aM hy2
     clear hr2 hcc2 hy2
     obtain ⟨hks, hk0, hk1⟩ := lz_Pack.key_some l0 sn.toNat (by have := HI.out; have := HGE.out; omega)
     rw [← HY2.out] at hks
     obtain ⟨kv, hkv⟩ : ∃ kv, kv = lz_Pack.keyAt l0 sn.toNat := ⟨_, rfl⟩
     rw [← hkv] at hks hk0 hk1
     have HKV := aM hks
     have HKN := aM hkv
     have HK : Aside0 (keyOf Try.prog 59 (.int .u32 kv) = some (.int .u32 kv)) := ⟨Maps.keyOf_int_mk HU.out (by simp [Lit.wf, IntKind.min, IntKind.max, IntKind.signed, IntKind.bits]; omega)⟩
     have g3 := eq_true g1
     have g4 := eq_true g2
     clear hks hk0 hk1 hkv g1 g2 hi05 hsz5
     go_wp2_with (first | ((with_reducible refine gate_callee (f := 38) rfl ?_); refine goesL_ (some 26) rfl rfl Try.func38 (by kernel_rfl) rfl #[.slice A2 y2.length c2] rfl (by (try simp only [List.map_toArray, List.map_cons, List.map_nil]); first | done | rfl) ?_; (with_reducible refine (lz_key.calls _ _ y2 kv _ ?side1 ?side2 HKV.out).mono ?_); (case side1 => exact Kd.C_below HR2.out HB.out); (case side2 => exact HC2.out); rintro e w' ⟨rfl, ⟨nd, rfl⟩⟩; refine ⟨_, rfl, ?_⟩) | (at_mapUpdate; refine map_store rfl _ _ _ 58 rfl (Maps.int_keyed HU.out) HT.out rfl (HM.out.drewN _) (by have := HI.out; have := HI0.out; have := HLIM.out; unfold maxLen; omega) (fun x y h => by injection h) _ _ kv sn rfl rfl HK.out (plainElem_int HE.out (WalkArith.wf_i64 (by have := HI.out; have := HI0.out; have := HLIM.out; omega))) ?_; intro w2 hm1 hg1; have HM1 := aM hm1; have HB2 := aM (below_mapped (pw_below_drewN HB.out _) hg1 (Nat.le_refl _) (below_size (pw_below_drewN HB.out _))); have HO1 := aM (R_mapped (Kd.R_drewN HO.out _) (HM.out.drewN _) hg1); clear hm1 hg1))
     go_roundg k2
     case measure => omega
     case rel =>
      have hi := HI.out
      have hi0 := HI0.out
      have hl := HLIM.out
      have hw : wrap64 (sn + 1) = sn + 1 := by unfold wrap64; omega
      have hn : (sn + 1).toNat = sn.toNat + 1 := by omega
      have hm2 := HM1.out
      have hcn : upd (lz_Pack.lastAt l0 sn.toNat) kv sn = lz_Pack.lastAt l0 (sn.toNat + 1) := by
       rw [HKN.out]
       show _ = upd (lz_Pack.lastAt l0 sn.toNat) (lz_Pack.keyAt l0 sn.toNat) ((sn.toNat : Nat) : Int)
       rw [Int.toNat_of_nonneg hi.1]
      rw [hcn, ← hn] at hm2
      exact ⟨sn + 1, (by rw [hw]), ⟨by omega⟩, HO1, ⟨hm2⟩, HB2⟩
    | zero =>
     have c2 : decide (sn < ix) = false := decide_eq_false (by have := HI.out; omega)
     have hsn : sn = ix := by have := HI.out; omega
     rw [hsn] at HM
     clear hsn
     have g1 : 0 ≤ ix := by have := HI.out; omega
     have g2 : ix ≤ (l0.length : Int) := by have := HI0.out; omega
     obtain ⟨A3, c3, hcut3, hr3, hcc3⟩ := cut_nums_from (P := Try.prog) .u8 22 5 Try.underlying22 hi05 hsz5 HR0.out HC0.out ix g1 g2
     obtain ⟨y3, hy3⟩ : ∃ y, y = l0.drop (ix).toNat := ⟨_, rfl⟩
     rw [← hy3] at hcut3 hr3 hcc3
     have HR3 := aM hr3
     have HC3 := aM hcc3
     have HY3 := aM hy3
     clear hr3 hcc3 hy3
     obtain ⟨hks, hk0, hk1⟩ := lz_Pack.key_some l0 ix.toNat (by have := HI.out; have := HGE.out; omega)
     rw [← HY3.out] at hks
     obtain ⟨kv, hkv⟩ : ∃ kv, kv = lz_Pack.keyAt l0 ix.toNat := ⟨_, rfl⟩
     rw [← hkv] at hks hk0 hk1
     have HKV := aM hks
     have HKN := aM hkv
     have HK : Aside0 (keyOf Try.prog 59 (.int .u32 kv) = some (.int .u32 kv)) := ⟨Maps.keyOf_int_mk HU.out (by simp [Lit.wf, IntKind.min, IntKind.max, IntKind.signed, IntKind.bits]; omega)⟩
     have g3 := eq_true g1
     have g4 := eq_true g2
     have HQ1 : Aside0 ((match lz_Pack.lastAt l0 ix.toNat kv with | some k => if ix.toNat - k.toNat > 65535 then lz_Pack.go l0 k1 fr.toNat (ix.toNat + 1) out else lz_Pack.go l0 k1 (ix.toNat + lz_Pack.run l0 ix.toNat k.toNat l0.length 4) (ix.toNat + lz_Pack.run l0 ix.toNat k.toNat l0.length 4) (out ++ lz_Pack.part ((l0.take ix.toNat).drop fr.toNat) (ix.toNat - k.toNat) (lz_Pack.run l0 ix.toNat k.toNat l0.length 4)) | none => lz_Pack.go l0 k1 fr.toNat (ix.toNat + 1) out) = r) := ⟨by
      have hq := HQ.out
      rw [lz_Pack.go, if_pos (by have := HGE.out; omega)] at hq
      rw [HKN.out]
      exact hq⟩
     clear hks hk0 hk1 hkv g1 g2 hi05 hsz5 HQ
     cases hla : lz_Pack.lastAt l0 ix.toNat kv with
     | none =>
      have HC := aM hla
      clear hla
      go_wp2_with (first | ((with_reducible refine gate_callee (f := 38) rfl ?_); refine goesL_ (some 33) rfl rfl Try.func38 (by kernel_rfl) rfl #[.slice A3 y3.length c3] rfl (by (try simp only [List.map_toArray, List.map_cons, List.map_nil]); first | done | rfl) ?_; (with_reducible refine (lz_key.calls _ _ y3 kv _ ?side1 ?side2 HKV.out).mono ?_); (case side1 => exact Kd.C_below HR3.out HB.out); (case side2 => exact HC3.out); rintro e w' ⟨rfl, ⟨nd, rfl⟩⟩; refine ⟨_, rfl, ?_⟩) | (at_lookup; refine map_look_ok rfl _ _ 58 rfl (Maps.int_keyed HU.out) HT.out HE.out (HZ.out _) rfl (HM.out.drewN _) _ kv rfl HK.out ?_; (rw [HC.out]; simp only [Option.getD_none, Option.isSome_none])))
      go_roundg k1
      case measure => omega
      case rel =>
       have hi0 := HI0.out
       have hi := HI.out
       have hl := HLIM.out
       have hw : wrap64 (ix + 1) = ix + 1 := by unfold wrap64; omega
       have hn : (ix + 1).toNat = ix.toNat + 1 := by omega
       have hq := HQ1.out
       rw [HC.out] at hq
       refine ⟨out, ix, fr, ix + 1, by first | rfl | (rw [show sn = ix from by omega]), rfl, by rw [hw], ⟨by have := HGE.out; omega⟩, HOL, ⟨by rw [hn]; exact hq⟩, ⟨Kd.R_drewN HO.out _⟩, ⟨HM.out.drewN _⟩, ⟨pw_below_drewN HB.out _⟩⟩
     | some kp =>
      have HC := aM hla
      have HKP := aM (lz_Pack.last_lt l0 kv kp ix.toNat hla)
      clear hla
      have HD : Aside0 (wrap64 (ix - kp) = ix - kp) := ⟨by have := HKP.out; have := HI0.out; have := HLIM.out; unfold wrap64; omega⟩
      obtain ⟨jd, hjd⟩ : ∃ j : Int, wrap64 (ix - kp) = j := ⟨_, rfl⟩
      have HJD : Aside0 (jd = ix - kp ∧ 0 < jd) := ⟨by have := HD.out; have := HKP.out; have := HI.out; omega⟩
      have hjdw : IntKind.i64.wrap (ix - kp) = jd := (i64_w _).trans hjd
      by_cases hfar : 65535 < jd
      ·
       have d3 : decide (65535 < jd) = true := decide_eq_true hfar
       have HFAR := aM hfar
       clear hfar
       go_wp2_with (first | ((with_reducible refine gate_callee (f := 38) rfl ?_); refine goesL_ (some 33) rfl rfl Try.func38 (by kernel_rfl) rfl #[.slice A3 y3.length c3] rfl (by (try simp only [List.map_toArray, List.map_cons, List.map_nil]); first | done | rfl) ?_; (with_reducible refine (lz_key.calls _ _ y3 kv _ ?side1 ?side2 HKV.out).mono ?_); (case side1 => exact Kd.C_below HR3.out HB.out); (case side2 => exact HC3.out); rintro e w' ⟨rfl, ⟨nd, rfl⟩⟩; refine ⟨_, rfl, ?_⟩) | (at_lookup; refine map_look_ok rfl _ _ 58 rfl (Maps.int_keyed HU.out) HT.out HE.out (HZ.out _) rfl (HM.out.drewN _) _ kv rfl HK.out ?_; (rw [HC.out]; simp only [Option.getD_some, Option.isSome_some])))
       go_roundg k1
       case measure => omega
       case rel =>
        have hi0 := HI0.out
        have hi := HI.out
        have hl := HLIM.out
        have hw : wrap64 (ix + 1) = ix + 1 := by unfold wrap64; omega
        have hn : (ix + 1).toNat = ix.toNat + 1 := by omega
        have hq := HQ1.out
        rw [HC.out] at hq
        simp only at hq
        rw [if_pos (by have := HFAR.out; have := HJD.out; have := HKP.out; omega)] at hq
        refine ⟨out, ix, fr, ix + 1, by first | rfl | (rw [show sn = ix from by omega]), rfl, by rw [hw], ⟨by have := HGE.out; omega⟩, HOL, ⟨by rw [hn]; exact hq⟩, ⟨Kd.R_drewN HO.out _⟩, ⟨HM.out.drewN _⟩, ⟨pw_below_drewN HB.out _⟩⟩
      ·
       have d3 : decide (65535 < jd) = false := decide_eq_false hfar
       have HFAR := aM hfar
       clear hfar
       have HQ2 : Aside0 (lz_Pack.go l0 k1 (ix.toNat + lz_Pack.run l0 ix.toNat kp.toNat l0.length 4) (ix.toNat + lz_Pack.run l0 ix.toNat kp.toNat l0.length 4) (out ++ lz_Pack.part ((l0.take ix.toNat).drop fr.toNat) (ix.toNat - kp.toNat) (lz_Pack.run l0 ix.toNat kp.toNat l0.length 4)) = r) := ⟨by
        have hq := HQ1.out
        rw [HC.out] at hq
        simp only at hq
        rw [if_neg (by have := HFAR.out; have := HJD.out; have := HKP.out; omega)] at hq
        exact hq⟩
       go_wp2_with (first | ((with_reducible refine gate_callee (f := 38) rfl ?_); refine goesL_ (some 33) rfl rfl Try.func38 (by kernel_rfl) rfl #[.slice A3 y3.length c3] rfl (by (try simp only [List.map_toArray, List.map_cons, List.map_nil]); first | done | rfl) ?_; (with_reducible refine (lz_key.calls _ _ y3 kv _ ?side1 ?side2 HKV.out).mono ?_); (case side1 => exact Kd.C_below HR3.out HB.out); (case side2 => exact HC3.out); rintro e w' ⟨rfl, ⟨nd, rfl⟩⟩; refine ⟨_, rfl, ?_⟩) | (at_lookup; refine map_look_ok rfl _ _ 58 rfl (Maps.int_keyed HU.out) HT.out HE.out (HZ.out _) rfl (HM.out.drewN _) _ kv rfl HK.out ?_; (rw [HC.out]; simp only [Option.getD_some, Option.isSome_some])))
       go_loopg [10] l0.length (fun kq v10 w' => ∃ n : Int, v10 = .int .i64 n ∧ Aside0 (4 ≤ n ∧ ix + n ≤ l0.length ∧ (l0.length : Int) ≤ kq + ix + n) ∧ Aside0 (lz_Pack.run l0 ix.toNat kp.toNat kq n.toNat = lz_Pack.run l0 ix.toNat kp.toNat l0.length 4) ∧ Aside0 (Kd.R (Kd.int .u8) 5 w' w.heap.size (fun _ => True) u3 out) ∧ Aside0 (MapF Try.prog 59 3 (Lit.int .u32) (Lit.int .i64) w' w.heap.size ix.toNat (lz_Pack.lastAt l0 ix.toNat)) ∧ Aside0 (Below w.heap.size w w'))
       case atStart => exact ⟨4, rfl, ⟨by have := HGE.out; have := HI.out; omega⟩, ⟨rfl⟩, ⟨Kd.R_drewN HO.out _⟩, ⟨HM.out.drewN _⟩, ⟨pw_below_drewN HB.out _⟩⟩
       case round =>
        clear HO HM HB
        obtain ⟨n, rfl, HN, HRUN, HO, HM, HB⟩ := hrel
        obtain ⟨j6, hj6⟩ : ∃ j : Int, wrap64 (ix + n) = j := ⟨_, rfl⟩
        have HJ6 : Aside0 (j6 = ix + n ∧ 0 ≤ j6) := ⟨by have := HN.out; have := HI.out; have := HLIM.out; rw [← hj6]; unfold wrap64; omega⟩
        have hj6w : IntKind.i64.wrap (ix + n) = j6 := (i64_w _).trans hj6
        by_cases hin : j6 < (l0.length : Int)
        ·
         have d5 : decide (j6 < (l0.length : Int)) = true := decide_eq_true hin
         have HLT6 := aM hin
         clear hin
         obtain ⟨j8, hj8⟩ : ∃ j : Int, wrap64 (kp + n) = j := ⟨_, rfl⟩
         have HJ8 : Aside0 (j8 = kp + n ∧ 0 ≤ j8) := ⟨by have := HN.out; have := HKP.out; have := HI.out; have := HLIM.out; rw [← hj8]; unfold wrap64; omega⟩
         have hj8w : IntKind.i64.wrap (kp + n) = j8 := (i64_w _).trans hj8
         have p311 : 0 ≤ j6 := by have := HJ6.out; omega
         have q311 : j6 < (l0.length : Int) := by have := HLT6.out; omega
         obtain ⟨ad311, e311, hx311_0⟩ := Kd.at_int HR0.out j6 p311 q311
         cases e311
         replace hx311_0 := (HB.out.cell (World.block_lt_of_cell? w _ hx311_0)).trans hx311_0
         have p312 : 0 ≤ j8 := by have := HJ8.out; omega
         have q312 : j8 < (l0.length : Int) := by have := HJ8.out; have := HJ6.out; have := HKP.out; omega
         obtain ⟨ad312, e312, hx312_0⟩ := Kd.at_int HR0.out j8 p312 q312
         obtain rfl : ad311 = ad312 := (by injection e312)
         replace hx312_0 := (HB.out.cell (World.block_lt_of_cell? w _ hx312_0)).trans hx312_0
         replace p311 := eq_true p311
         replace q311 := eq_true q311
         replace p312 := eq_true p312
         replace q312 := eq_true q312
         by_cases heq : rd l0 j6 = rd l0 j8
         ·
          have d11 : (rd l0 j6 == rd l0 j8) = true := beq_iff_eq.mpr heq
          have d12 : (rd l0 j6 != rd l0 j8) = false := bne_eq_false_iff_eq.mpr heq
          have HEQ := aM heq
          clear heq
          cases gk with
          | zero => exact absurd HLT6.out (by have := HN.out; have := HJ6.out; omega)
          | succ k3 =>
          go_wp2
          repeat (go_quiet (fail); try go_wp2)
          go_roundg k3
          case measure => omega
          case rel =>
           have hn := HN.out
           have hl := HLIM.out
           have hi := HI0.out
           have hw : wrap64 (n + 1) = n + 1 := by unfold wrap64; omega
           have hnn : (n + 1).toNat = n.toNat + 1 := by omega
           refine ⟨n + 1, by rw [hw], ⟨by have := HLT6.out; have := HJ6.out; omega⟩, ⟨?_⟩, ⟨Kd.R_drewN HO.out _⟩, ⟨HM.out.drewN _⟩, ⟨pw_below_drewN HB.out _⟩⟩
           have hr := HRUN.out
           rw [lz_Pack.run, if_pos ⟨by have := HLT6.out; have := HJ6.out; have := HI.out; omega, by
            have e1 : ((ix.toNat + n.toNat : Nat) : Int) = j6 := by have := HJ6.out; have := HI.out; omega
            have e2 : ((kp.toNat + n.toNat : Nat) : Int) = j8 := by have := HJ8.out; have := HKP.out; omega
            rw [e1, e2]
            exact HEQ.out⟩] at hr
           rw [hnn]
           exact hr
         ·
          have d11 : (rd l0 j6 == rd l0 j8) = false := beq_eq_false_iff_ne.mpr heq
          have d12 : (rd l0 j6 != rd l0 j8) = true := bne_iff_ne.mpr heq
          have HSTOP : Aside0 (lz_Pack.run l0 ix.toNat kp.toNat gk n.toNat = n.toNat) := ⟨by
           cases gk with
           | zero => rfl
           | succ k3 =>
            rw [lz_Pack.run, if_neg]
            rintro ⟨_, h2⟩
            apply heq
            have e1 : ((ix.toNat + n.toNat : Nat) : Int) = j6 := by have := HJ6.out; have := HI.out; have := HN.out; omega
            have e2 : ((kp.toNat + n.toNat : Nat) : Int) = j8 := by have := HJ8.out; have := HKP.out; have := HN.out; omega
            rw [e1, e2] at h2
            exact h2⟩
          clear heq
          have HEN : Aside0 (n.toNat = lz_Pack.run l0 ix.toNat kp.toNat l0.length 4) := ⟨by rw [← HRUN.out, HSTOP.out]⟩
          have HNB : Aside0 (4 ≤ n ∧ n ≤ l0.length ∧ n < 10000000000000) := ⟨by have := HN.out; have := HI.out; have := HI0.out; have := HLIM.out; omega⟩
          have HW4 : Aside0 (wrap64 (n - 4) = ((n.toNat - 4 : Nat) : Int)) := ⟨by have := HNB.out; unfold wrap64; omega⟩
          have HW19 : Aside0 (wrap64 (wrap64 (n - 4) - 15) = n - 19) := ⟨by have := HNB.out; have := HW4.out; rw [HW4.out]; unfold wrap64; omega⟩
          have hi05 := HI5.out
          have hsz5 := HSZ5.out
          have g1 : 0 ≤ fr := HI0.out.1
          have g2 : fr ≤ ix := HI0.out.2.1
          have g5 : ix ≤ (l0.length : Int) := HI0.out.2.2.1
          obtain ⟨A4, c4, hcut4, hr4, hcc4⟩ := cut_nums_mid (P := Try.prog) .u8 22 5 Try.underlying22 hi05 hsz5 HR0.out HC0.out fr ix g1 g2 g5
          obtain ⟨y4, hy4⟩ : ∃ y, y = (l0.take ix.toNat).drop fr.toNat := ⟨_, rfl⟩
          rw [← hy4] at hcut4 hr4 hcc4
          have HR4 := aM hr4
          have HC4 := aM hcc4
          have HY4 := aM hy4
          have HYL : Aside0 (y4.length = ix.toNat - fr.toNat) := ⟨by rw [HY4.out, List.length_drop, List.length_take]; omega⟩
          have g3 := eq_true g1
          have g4 := eq_true g2
          have g6 := eq_true g5
          have g7 : decide (fr ≤ ix) = true := decide_eq_true g2
          clear g1 g2 g5 hi05 hsz5 hr4 hcc4 hy4
          obtain ⟨y77, hy77⟩ : ∃ y, y = out ++ lz_Pack.litT y4 (n.toNat - 4) := ⟨_, rfl⟩
          have HLT : Aside0 (lz_literals.f (l0.length + 1) out y4 (wrap64 (n - 4)) = some y77) := ⟨by
           rw [hy77, HW4.out]
           exact lz_Pack.lit_eq (l0.length + 1) out y4 (n.toNat - 4) (by have := HYL.out; have := HI0.out; omega) (by have := HYL.out; have := HOL.out; have := HI0.out; have := HLIM.out; omega) (by have := HNB.out; omega)⟩
          have HY77 := aM hy77
          have HL77 : Aside0 (y77.length ≤ 3 * fr.toNat + 2 + 2 * (ix.toNat - fr.toNat)) := ⟨by
           have := lz_Pack.litT_len y4 (n.toNat - 4)
           have := HYL.out
           have := HOL.out
           have := HI0.out
           rw [hy77, List.length_append]
           omega⟩
          have HJN : Aside0 (jd % 256 = ((ix.toNat - kp.toNat) % 256 : Nat) ∧ jd / 256 % 256 = ((ix.toNat - kp.toNat) / 256 % 256 : Nat)) := ⟨by
           have := HJD.out
           have := HKP.out
           have := HI0.out
           have e : jd = ((ix.toNat - kp.toNat : Nat) : Int) := by omega
           rw [e]
           constructor <;> rfl⟩
          have HPL : Aside0 ((lz_Pack.part y4 (ix.toNat - kp.toNat) n.toNat).length ≤ 2 * y4.length + 3 * n.toNat) := ⟨lz_Pack.part_len _ _ _ (by have := HNB.out; omega)⟩
          clear hy77
          by_cases h19 : 19 ≤ n
          ·
           have d17 : decide (15 ≤ wrap64 (n - 4)) = true := decide_eq_true (by rw [HW4.out]; omega)
           have H19 := aM h19
           clear h19
           have HLY : Aside0 (lz_lay.f (l0.length + 1) (y77 ++ [jd % 256, jd / 256 % 256]) (wrap64 (wrap64 (n - 4) - 15)) = some (y77 ++ [jd % 256, jd / 256 % 256] ++ lz_Pack.layT (n.toNat - 19))) := ⟨by
            have e : n - 19 = ((n.toNat - 19 : Nat) : Int) := by have := H19.out; omega
            rw [HW19.out, e]
            exact lz_Pack.lay_eq (l0.length + 1) _ (n.toNat - 19) (by have := HNB.out; omega) (by have := HL77.out; have := HNB.out; have := HI0.out; have := HLIM.out; simp only [List.length_append, List.length_cons, List.length_nil]; omega) (by have := HNB.out; omega)⟩
           go_wp2; repeat (go_quiet (fail)); go_wp2_with (first | ((with_reducible refine gate_callee (f := 39) rfl ?_); refine goesL_ (some 77) rfl rfl Try.func39 (by kernel_rfl) rfl #[u3, .slice A4 y4.length c4, .int .i64 (wrap64 (n - 4))] rfl (by (try simp only [List.map_toArray, List.map_cons, List.map_nil]); first | done | rfl) ?_; (with_reducible refine (lz_literals.calls (l0.length + 1) (fun k_ => some k_ = u3.ownBlock) u3 out _ _ y4 (wrap64 (n - 4)) y77 w _ ?side1 ?side2 ?side3 ?side4 HLT.out).mono ?_); (case side1 => first | exact HB.out | exact pw_below_drewN HB.out _); (case side2 => first | exact Kd.R_tight rfl HO.out | exact Kd.R_tight rfl (Kd.R_drewN HO.out _)); (case side3 => first | exact Kd.C_kept_came (Kd.heap_int .u8) HR4.out HB.out (fun k hk => Kd.R_base HO.out k hk.symm) | exact Kd.C_kept_came (Kd.heap_int .u8) HR4.out (pw_below_drewN HB.out _) (fun k hk => Kd.R_base HO.out k hk.symm)); (case side4 => exact HC4.out); rintro e w2 ⟨v77, rfl, ho2, hb2, hk2⟩; refine ⟨_, rfl, ?_⟩; have HO2 := aM (Kd.R_mono (ok' := fun _ => True) ho2 (fun _ _ => trivial)); have HB2 := aM hb2; have HM2 := aM (HM.out.same (hk2.2 _ HM.out.lt (fun he => HM.out.ne_row HO.out he))); clear ho2 hb2 hk2) | ((with_reducible refine gate_dst (N := 88) rfl ?_); refine Kd.R_lit (Kd.int .u8) _ 5 ?hg (N := 88) ?hd (xs := ([jd % 256, jd / 256 % 256] : List Int)) (inner := [.int .u8 (jd % 256), .int .u8 (jd / 256 % 256)]) (ok := fun _ => True) (okp := fun _ => True) ?hr ?hp (fun _ hk => hk) trivial (Below.refl _ _) (Nat.le_refl _) (by simp) ?_; (case hd => rfl); (case hg => rfl); (case hr => first | (go_simp; done) | (go_simp; rfl)); (case hp => exact (Reps.one (show Kd.M (Kd.int .u8) _ _ _ (jd % 256) [.int .u8 (jd % 256)] from rfl) (Reps.one (show Kd.M (Kd.int .u8) _ _ _ (jd / 256 % 256) [.int .u8 (jd / 256 % 256)] from rfl) (Reps.none _ _)))); intro v88 w88 ho88 hb88 hg_ hnew_; have HO3 := aM (Kd.R_below HO2.out hb88); have HM3 := aM (HM2.out.below hb88); have HB3 := aM (below_step HB2.out hb88); have HL88 := aM ho88; clear ho88 hb88 hg_ hnew_; obtain ⟨A88, c88, e88⟩ := Kd.R_slice HL88.out; subst e88) | ((with_reducible refine gate_builtin (b := .append) (xs := #[.tmp 78, .tmp 88]) rfl ?_); at_builtin; refine Kd.R_append_rows (Kd.int .u8) (w0 := w) w.heap.size rfl (.tmp 78) (.tmp 88) 22 5 (.int .u8 0) 1 rfl Try.underlying22 info5 rfl (by decide) (by omega) v77 y77 [jd % 256, jd / 256 % 256] _ _ _ (fun _ => True) (fun _ => False) rfl rfl ?aO ?aR (fun _ _ h => h) (fun _ h => h.elim) ?aF ?aB ?aS ?aL ?_; (case aR => exact (Kd.R_reads' HL88.out).2.2); (case aB => exact HB3.out); (case aF => exact (fun _ _ => trivial)); (case aO => exact HO3.out); (case aS => exact below_size HB3.out); (case aL => have := HL77.out; have := HI0.out; have := HLIM.out; simp only [List.length_cons, List.length_nil]; omega); intro v89 w89 ho hb hg hat; have HO4 := aM ho; have HB4 := aM hb; have HM4 := aM (HM3.out.kept hg (HM3.out.ne_row HO3.out)); clear ho hb hg hat) | ((with_reducible refine gate_callee (f := 40) rfl ?_); refine goesL_ (some 97) rfl rfl Try.func40 (by kernel_rfl) rfl #[v89, .int .i64 (wrap64 (wrap64 (n - 4) - 15))] rfl (by (try simp only [List.map_toArray, List.map_cons, List.map_nil]); first | done | rfl) ?_; (with_reducible refine (lz_lay.calls (l0.length + 1) (fun k_ => some k_ = v89.ownBlock) v89 (y77 ++ [jd % 256, jd / 256 % 256]) (wrap64 (wrap64 (n - 4) - 15)) _ w _ ?side1 ?side2 HLY.out).mono ?_); (case side1 => exact HB4.out); (case side2 => exact Kd.R_tight rfl HO4.out); rintro e w5 ⟨v97, rfl, ho2, hb2, hk2⟩; refine ⟨_, rfl, ?_⟩; have HO5 := aM (Kd.R_mono (ok' := fun _ => True) ho2 (fun _ _ => trivial)); have HB5 := aM hb2; have HM5 := aM (HM4.out.same (hk2.2 _ HM4.out.lt (fun he => HM4.out.ne_row HO4.out he))); clear ho2 hb2 hk2))
           go_roundg k1
           case measure => omega
           case rel =>
            have hnb := HNB.out
            have hi0 := HI0.out
            have hn := HN.out
            have hw : wrap64 (ix + n) = ix + n := by have := HLIM.out; unfold wrap64; omega
            have hnn : (ix + n).toNat = ix.toNat + n.toNat := by omega
            have hq := HQ2.out
            rw [← HEN.out, ← HY4.out, ← hnn] at hq
            have hpp : y77 ++ [jd % 256, jd / 256 % 256] ++ lz_Pack.layT (n.toNat - 19) = out ++ lz_Pack.part y4 (ix.toNat - kp.toNat) n.toNat := by
             rw [HY77.out, lz_Pack.part, if_pos (by have := H19.out; omega), HJN.out.1, HJN.out.2]
             simp
            rw [← hpp] at hq
            have hpl := HPL.out
            have hyl := HYL.out
            have hol := HOL.out
            refine ⟨_, sn, ix + n, ix + n, rfl, by rw [HJ6.out.1], by rw [HJ6.out.1], ⟨by have := HI.out; omega⟩, ⟨?_⟩, ⟨hq⟩, HO5, ⟨?_⟩, HB5⟩
            ·
             rw [hpp, List.length_append]
             omega
            ·
             have e : sn = ix := by have := HI.out; omega
             rw [e]
             exact HM5.out
          ·
           have d17 : decide (15 ≤ wrap64 (n - 4)) = false := decide_eq_false (by rw [HW4.out]; omega)
           have H19 := aM h19
           clear h19
           go_wp2; repeat (go_quiet (fail)); go_wp2_with (first | ((with_reducible refine gate_callee (f := 39) rfl ?_); refine goesL_ (some 77) rfl rfl Try.func39 (by kernel_rfl) rfl #[u3, .slice A4 y4.length c4, .int .i64 (wrap64 (n - 4))] rfl (by (try simp only [List.map_toArray, List.map_cons, List.map_nil]); first | done | rfl) ?_; (with_reducible refine (lz_literals.calls (l0.length + 1) (fun k_ => some k_ = u3.ownBlock) u3 out _ _ y4 (wrap64 (n - 4)) y77 w _ ?side1 ?side2 ?side3 ?side4 HLT.out).mono ?_); (case side1 => first | exact HB.out | exact pw_below_drewN HB.out _); (case side2 => first | exact Kd.R_tight rfl HO.out | exact Kd.R_tight rfl (Kd.R_drewN HO.out _)); (case side3 => first | exact Kd.C_kept_came (Kd.heap_int .u8) HR4.out HB.out (fun k hk => Kd.R_base HO.out k hk.symm) | exact Kd.C_kept_came (Kd.heap_int .u8) HR4.out (pw_below_drewN HB.out _) (fun k hk => Kd.R_base HO.out k hk.symm)); (case side4 => exact HC4.out); rintro e w2 ⟨v77, rfl, ho2, hb2, hk2⟩; refine ⟨_, rfl, ?_⟩; have HO2 := aM (Kd.R_mono (ok' := fun _ => True) ho2 (fun _ _ => trivial)); have HB2 := aM hb2; have HM2 := aM (HM.out.same (hk2.2 _ HM.out.lt (fun he => HM.out.ne_row HO.out he))); clear ho2 hb2 hk2) | ((with_reducible refine gate_dst (N := 88) rfl ?_); refine Kd.R_lit (Kd.int .u8) _ 5 ?hg (N := 88) ?hd (xs := ([jd % 256, jd / 256 % 256] : List Int)) (inner := [.int .u8 (jd % 256), .int .u8 (jd / 256 % 256)]) (ok := fun _ => True) (okp := fun _ => True) ?hr ?hp (fun _ hk => hk) trivial (Below.refl _ _) (Nat.le_refl _) (by simp) ?_; (case hd => rfl); (case hg => rfl); (case hr => first | (go_simp; done) | (go_simp; rfl)); (case hp => exact (Reps.one (show Kd.M (Kd.int .u8) _ _ _ (jd % 256) [.int .u8 (jd % 256)] from rfl) (Reps.one (show Kd.M (Kd.int .u8) _ _ _ (jd / 256 % 256) [.int .u8 (jd / 256 % 256)] from rfl) (Reps.none _ _)))); intro v88 w88 ho88 hb88 hg_ hnew_; have HO3 := aM (Kd.R_below HO2.out hb88); have HM3 := aM (HM2.out.below hb88); have HB3 := aM (below_step HB2.out hb88); have HL88 := aM ho88; clear ho88 hb88 hg_ hnew_; obtain ⟨A88, c88, e88⟩ := Kd.R_slice HL88.out; subst e88) | ((with_reducible refine gate_builtin (b := .append) (xs := #[.tmp 78, .tmp 88]) rfl ?_); at_builtin; refine Kd.R_append_rows (Kd.int .u8) (w0 := w) w.heap.size rfl (.tmp 78) (.tmp 88) 22 5 (.int .u8 0) 1 rfl Try.underlying22 info5 rfl (by decide) (by omega) v77 y77 [jd % 256, jd / 256 % 256] _ _ _ (fun _ => True) (fun _ => False) rfl rfl ?aO ?aR (fun _ _ h => h) (fun _ h => h.elim) ?aF ?aB ?aS ?aL ?_; (case aR => exact (Kd.R_reads' HL88.out).2.2); (case aB => exact HB3.out); (case aF => exact (fun _ _ => trivial)); (case aO => exact HO3.out); (case aS => exact below_size HB3.out); (case aL => have := HL77.out; have := HI0.out; have := HLIM.out; simp only [List.length_cons, List.length_nil]; omega); intro v89 w89 ho hb hg hat; have HO4 := aM ho; have HB4 := aM hb; have HM4 := aM (HM3.out.kept hg (HM3.out.ne_row HO3.out)); clear ho hb hg hat))
           go_roundg k1
           case measure => omega
           case rel =>
            have hnb := HNB.out
            have hi0 := HI0.out
            have hn := HN.out
            have hw : wrap64 (ix + n) = ix + n := by have := HLIM.out; unfold wrap64; omega
            have hnn : (ix + n).toNat = ix.toNat + n.toNat := by omega
            have hq := HQ2.out
            rw [← HEN.out, ← HY4.out, ← hnn] at hq
            have hpp : y77 ++ [jd % 256, jd / 256 % 256] = out ++ lz_Pack.part y4 (ix.toNat - kp.toNat) n.toNat := by
             rw [HY77.out, lz_Pack.part, if_neg (by have := H19.out; omega), HJN.out.1, HJN.out.2]
             simp
            rw [← hpp] at hq
            have hpl := HPL.out
            have hyl := HYL.out
            have hol := HOL.out
            refine ⟨_, sn, ix + n, ix + n, rfl, by rw [HJ6.out.1], by rw [HJ6.out.1], ⟨by have := HI.out; omega⟩, ⟨?_⟩, ⟨hq⟩, HO4, ⟨?_⟩, HB4⟩
            ·
             rw [hpp, List.length_append]
             omega
            ·
             have e : sn = ix := by have := HI.out; omega
             rw [e]
             exact HM4.out
        ·
         have d5 : decide (j6 < (l0.length : Int)) = false := decide_eq_false hin
         have HSTOP : Aside0 (lz_Pack.run l0 ix.toNat kp.toNat gk n.toNat = n.toNat) := ⟨by
          cases gk with
          | zero => rfl
          | succ k3 =>
           rw [lz_Pack.run, if_neg]
           rintro ⟨h1, _⟩
           apply hin
           have := HJ6.out
           have := HI.out
           have := HN.out
           omega⟩
         clear hin
         have HEN : Aside0 (n.toNat = lz_Pack.run l0 ix.toNat kp.toNat l0.length 4) := ⟨by rw [← HRUN.out, HSTOP.out]⟩
         have HNB : Aside0 (4 ≤ n ∧ n ≤ l0.length ∧ n < 10000000000000) := ⟨by have := HN.out; have := HI.out; have := HI0.out; have := HLIM.out; omega⟩
         have HW4 : Aside0 (wrap64 (n - 4) = ((n.toNat - 4 : Nat) : Int)) := ⟨by have := HNB.out; unfold wrap64; omega⟩
         have HW19 : Aside0 (wrap64 (wrap64 (n - 4) - 15) = n - 19) := ⟨by have := HNB.out; have := HW4.out; rw [HW4.out]; unfold wrap64; omega⟩
         have hi05 := HI5.out
         have hsz5 := HSZ5.out
         have g1 : 0 ≤ fr := HI0.out.1
         have g2 : fr ≤ ix := HI0.out.2.1
         have g5 : ix ≤ (l0.length : Int) := HI0.out.2.2.1
         obtain ⟨A4, c4, hcut4, hr4, hcc4⟩ := cut_nums_mid (P := Try.prog) .u8 22 5 Try.underlying22 hi05 hsz5 HR0.out HC0.out fr ix g1 g2 g5
         obtain ⟨y4, hy4⟩ : ∃ y, y = (l0.take ix.toNat).drop fr.toNat := ⟨_, rfl⟩
         rw [← hy4] at hcut4 hr4 hcc4
         have HR4 := aM hr4
         have HC4 := aM hcc4
         have HY4 := aM hy4
         have HYL : Aside0 (y4.length = ix.toNat - fr.toNat) := ⟨by rw [HY4.out, List.length_drop, List.length_take]; omega⟩
         have g3 := eq_true g1
         have g4 := eq_true g2
         have g6 := eq_true g5
         have g7 : decide (fr ≤ ix) = true := decide_eq_true g2
         clear g1 g2 g5 hi05 hsz5 hr4 hcc4 hy4
         obtain ⟨y77, hy77⟩ : ∃ y, y = out ++ lz_Pack.litT y4 (n.toNat - 4) := ⟨_, rfl⟩
         have HLT : Aside0 (lz_literals.f (l0.length + 1) out y4 (wrap64 (n - 4)) = some y77) := ⟨by
          rw [hy77, HW4.out]
          exact lz_Pack.lit_eq (l0.length + 1) out y4 (n.toNat - 4) (by have := HYL.out; have := HI0.out; omega) (by have := HYL.out; have := HOL.out; have := HI0.out; have := HLIM.out; omega) (by have := HNB.out; omega)⟩
         have HY77 := aM hy77
         have HL77 : Aside0 (y77.length ≤ 3 * fr.toNat + 2 + 2 * (ix.toNat - fr.toNat)) := ⟨by
          have := lz_Pack.litT_len y4 (n.toNat - 4)
          have := HYL.out
          have := HOL.out
          have := HI0.out
          rw [hy77, List.length_append]
          omega⟩
         have HJN : Aside0 (jd % 256 = ((ix.toNat - kp.toNat) % 256 : Nat) ∧ jd / 256 % 256 = ((ix.toNat - kp.toNat) / 256 % 256 : Nat)) := ⟨by
          have := HJD.out
          have := HKP.out
          have := HI0.out
          have e : jd = ((ix.toNat - kp.toNat : Nat) : Int) := by omega
          rw [e]
          constructor <;> rfl⟩
         have HPL : Aside0 ((lz_Pack.part y4 (ix.toNat - kp.toNat) n.toNat).length ≤ 2 * y4.length + 3 * n.toNat) := ⟨lz_Pack.part_len _ _ _ (by have := HNB.out; omega)⟩
         clear hy77
         by_cases h19 : 19 ≤ n
         ·
          have d17 : decide (15 ≤ wrap64 (n - 4)) = true := decide_eq_true (by rw [HW4.out]; omega)
          have H19 := aM h19
          clear h19
          have HLY : Aside0 (lz_lay.f (l0.length + 1) (y77 ++ [jd % 256, jd / 256 % 256]) (wrap64 (wrap64 (n - 4) - 15)) = some (y77 ++ [jd % 256, jd / 256 % 256] ++ lz_Pack.layT (n.toNat - 19))) := ⟨by
           have e : n - 19 = ((n.toNat - 19 : Nat) : Int) := by have := H19.out; omega
           rw [HW19.out, e]
           exact lz_Pack.lay_eq (l0.length + 1) _ (n.toNat - 19) (by have := HNB.out; omega) (by have := HL77.out; have := HNB.out; have := HI0.out; have := HLIM.out; simp only [List.length_append, List.length_cons, List.length_nil]; omega) (by have := HNB.out; omega)⟩
          go_wp2; repeat (go_quiet (fail)); go_wp2_with (first | ((with_reducible refine gate_callee (f := 39) rfl ?_); refine goesL_ (some 77) rfl rfl Try.func39 (by kernel_rfl) rfl #[u3, .slice A4 y4.length c4, .int .i64 (wrap64 (n - 4))] rfl (by (try simp only [List.map_toArray, List.map_cons, List.map_nil]); first | done | rfl) ?_; (with_reducible refine (lz_literals.calls (l0.length + 1) (fun k_ => some k_ = u3.ownBlock) u3 out _ _ y4 (wrap64 (n - 4)) y77 w _ ?side1 ?side2 ?side3 ?side4 HLT.out).mono ?_); (case side1 => first | exact HB.out | exact pw_below_drewN HB.out _); (case side2 => first | exact Kd.R_tight rfl HO.out | exact Kd.R_tight rfl (Kd.R_drewN HO.out _)); (case side3 => first | exact Kd.C_kept_came (Kd.heap_int .u8) HR4.out HB.out (fun k hk => Kd.R_base HO.out k hk.symm) | exact Kd.C_kept_came (Kd.heap_int .u8) HR4.out (pw_below_drewN HB.out _) (fun k hk => Kd.R_base HO.out k hk.symm)); (case side4 => exact HC4.out); rintro e w2 ⟨v77, rfl, ho2, hb2, hk2⟩; refine ⟨_, rfl, ?_⟩; have HO2 := aM (Kd.R_mono (ok' := fun _ => True) ho2 (fun _ _ => trivial)); have HB2 := aM hb2; have HM2 := aM (HM.out.same (hk2.2 _ HM.out.lt (fun he => HM.out.ne_row HO.out he))); clear ho2 hb2 hk2) | ((with_reducible refine gate_dst (N := 88) rfl ?_); refine Kd.R_lit (Kd.int .u8) _ 5 ?hg (N := 88) ?hd (xs := ([jd % 256, jd / 256 % 256] : List Int)) (inner := [.int .u8 (jd % 256), .int .u8 (jd / 256 % 256)]) (ok := fun _ => True) (okp := fun _ => True) ?hr ?hp (fun _ hk => hk) trivial (Below.refl _ _) (Nat.le_refl _) (by simp) ?_; (case hd => rfl); (case hg => rfl); (case hr => first | (go_simp; done) | (go_simp; rfl)); (case hp => exact (Reps.one (show Kd.M (Kd.int .u8) _ _ _ (jd % 256) [.int .u8 (jd % 256)] from rfl) (Reps.one (show Kd.M (Kd.int .u8) _ _ _ (jd / 256 % 256) [.int .u8 (jd / 256 % 256)] from rfl) (Reps.none _ _)))); intro v88 w88 ho88 hb88 hg_ hnew_; have HO3 := aM (Kd.R_below HO2.out hb88); have HM3 := aM (HM2.out.below hb88); have HB3 := aM (below_step HB2.out hb88); have HL88 := aM ho88; clear ho88 hb88 hg_ hnew_; obtain ⟨A88, c88, e88⟩ := Kd.R_slice HL88.out; subst e88) | ((with_reducible refine gate_builtin (b := .append) (xs := #[.tmp 78, .tmp 88]) rfl ?_); at_builtin; refine Kd.R_append_rows (Kd.int .u8) (w0 := w) w.heap.size rfl (.tmp 78) (.tmp 88) 22 5 (.int .u8 0) 1 rfl Try.underlying22 info5 rfl (by decide) (by omega) v77 y77 [jd % 256, jd / 256 % 256] _ _ _ (fun _ => True) (fun _ => False) rfl rfl ?aO ?aR (fun _ _ h => h) (fun _ h => h.elim) ?aF ?aB ?aS ?aL ?_; (case aR => exact (Kd.R_reads' HL88.out).2.2); (case aB => exact HB3.out); (case aF => exact (fun _ _ => trivial)); (case aO => exact HO3.out); (case aS => exact below_size HB3.out); (case aL => have := HL77.out; have := HI0.out; have := HLIM.out; simp only [List.length_cons, List.length_nil]; omega); intro v89 w89 ho hb hg hat; have HO4 := aM ho; have HB4 := aM hb; have HM4 := aM (HM3.out.kept hg (HM3.out.ne_row HO3.out)); clear ho hb hg hat) | ((with_reducible refine gate_callee (f := 40) rfl ?_); refine goesL_ (some 97) rfl rfl Try.func40 (by kernel_rfl) rfl #[v89, .int .i64 (wrap64 (wrap64 (n - 4) - 15))] rfl (by (try simp only [List.map_toArray, List.map_cons, List.map_nil]); first | done | rfl) ?_; (with_reducible refine (lz_lay.calls (l0.length + 1) (fun k_ => some k_ = v89.ownBlock) v89 (y77 ++ [jd % 256, jd / 256 % 256]) (wrap64 (wrap64 (n - 4) - 15)) _ w _ ?side1 ?side2 HLY.out).mono ?_); (case side1 => exact HB4.out); (case side2 => exact Kd.R_tight rfl HO4.out); rintro e w5 ⟨v97, rfl, ho2, hb2, hk2⟩; refine ⟨_, rfl, ?_⟩; have HO5 := aM (Kd.R_mono (ok' := fun _ => True) ho2 (fun _ _ => trivial)); have HB5 := aM hb2; have HM5 := aM (HM4.out.same (hk2.2 _ HM4.out.lt (fun he => HM4.out.ne_row HO4.out he))); clear ho2 hb2 hk2))
          go_roundg k1
          case measure => omega
          case rel =>
           have hnb := HNB.out
           have hi0 := HI0.out
           have hn := HN.out
           have hw : wrap64 (ix + n) = ix + n := by have := HLIM.out; unfold wrap64; omega
           have hnn : (ix + n).toNat = ix.toNat + n.toNat := by omega
           have hq := HQ2.out
           rw [← HEN.out, ← HY4.out, ← hnn] at hq
           have hpp : y77 ++ [jd % 256, jd / 256 % 256] ++ lz_Pack.layT (n.toNat - 19) = out ++ lz_Pack.part y4 (ix.toNat - kp.toNat) n.toNat := by
            rw [HY77.out, lz_Pack.part, if_pos (by have := H19.out; omega), HJN.out.1, HJN.out.2]
            simp
           rw [← hpp] at hq
           have hpl := HPL.out
           have hyl := HYL.out
           have hol := HOL.out
           refine ⟨_, sn, ix + n, ix + n, rfl, by rw [HJ6.out.1], by rw [HJ6.out.1], ⟨by have := HI.out; omega⟩, ⟨?_⟩, ⟨hq⟩, HO5, ⟨?_⟩, HB5⟩
           ·
            rw [hpp, List.length_append]
            omega
           ·
            have e : sn = ix := by have := HI.out; omega
            rw [e]
            exact HM5.out
         ·
          have d17 : decide (15 ≤ wrap64 (n - 4)) = false := decide_eq_false (by rw [HW4.out]; omega)
          have H19 := aM h19
          clear h19
          go_wp2; repeat (go_quiet (fail)); go_wp2_with (first | ((with_reducible refine gate_callee (f := 39) rfl ?_); refine goesL_ (some 77) rfl rfl Try.func39 (by kernel_rfl) rfl #[u3, .slice A4 y4.length c4, .int .i64 (wrap64 (n - 4))] rfl (by (try simp only [List.map_toArray, List.map_cons, List.map_nil]); first | done | rfl) ?_; (with_reducible refine (lz_literals.calls (l0.length + 1) (fun k_ => some k_ = u3.ownBlock) u3 out _ _ y4 (wrap64 (n - 4)) y77 w _ ?side1 ?side2 ?side3 ?side4 HLT.out).mono ?_); (case side1 => first | exact HB.out | exact pw_below_drewN HB.out _); (case side2 => first | exact Kd.R_tight rfl HO.out | exact Kd.R_tight rfl (Kd.R_drewN HO.out _)); (case side3 => first | exact Kd.C_kept_came (Kd.heap_int .u8) HR4.out HB.out (fun k hk => Kd.R_base HO.out k hk.symm) | exact Kd.C_kept_came (Kd.heap_int .u8) HR4.out (pw_below_drewN HB.out _) (fun k hk => Kd.R_base HO.out k hk.symm)); (case side4 => exact HC4.out); rintro e w2 ⟨v77, rfl, ho2, hb2, hk2⟩; refine ⟨_, rfl, ?_⟩; have HO2 := aM (Kd.R_mono (ok' := fun _ => True) ho2 (fun _ _ => trivial)); have HB2 := aM hb2; have HM2 := aM (HM.out.same (hk2.2 _ HM.out.lt (fun he => HM.out.ne_row HO.out he))); clear ho2 hb2 hk2) | ((with_reducible refine gate_dst (N := 88) rfl ?_); refine Kd.R_lit (Kd.int .u8) _ 5 ?hg (N := 88) ?hd (xs := ([jd % 256, jd / 256 % 256] : List Int)) (inner := [.int .u8 (jd % 256), .int .u8 (jd / 256 % 256)]) (ok := fun _ => True) (okp := fun _ => True) ?hr ?hp (fun _ hk => hk) trivial (Below.refl _ _) (Nat.le_refl _) (by simp) ?_; (case hd => rfl); (case hg => rfl); (case hr => first | (go_simp; done) | (go_simp; rfl)); (case hp => exact (Reps.one (show Kd.M (Kd.int .u8) _ _ _ (jd % 256) [.int .u8 (jd % 256)] from rfl) (Reps.one (show Kd.M (Kd.int .u8) _ _ _ (jd / 256 % 256) [.int .u8 (jd / 256 % 256)] from rfl) (Reps.none _ _)))); intro v88 w88 ho88 hb88 hg_ hnew_; have HO3 := aM (Kd.R_below HO2.out hb88); have HM3 := aM (HM2.out.below hb88); have HB3 := aM (below_step HB2.out hb88); have HL88 := aM ho88; clear ho88 hb88 hg_ hnew_; obtain ⟨A88, c88, e88⟩ := Kd.R_slice HL88.out; subst e88) | ((with_reducible refine gate_builtin (b := .append) (xs := #[.tmp 78, .tmp 88]) rfl ?_); at_builtin; refine Kd.R_append_rows (Kd.int .u8) (w0 := w) w.heap.size rfl (.tmp 78) (.tmp 88) 22 5 (.int .u8 0) 1 rfl Try.underlying22 info5 rfl (by decide) (by omega) v77 y77 [jd % 256, jd / 256 % 256] _ _ _ (fun _ => True) (fun _ => False) rfl rfl ?aO ?aR (fun _ _ h => h) (fun _ h => h.elim) ?aF ?aB ?aS ?aL ?_; (case aR => exact (Kd.R_reads' HL88.out).2.2); (case aB => exact HB3.out); (case aF => exact (fun _ _ => trivial)); (case aO => exact HO3.out); (case aS => exact below_size HB3.out); (case aL => have := HL77.out; have := HI0.out; have := HLIM.out; simp only [List.length_cons, List.length_nil]; omega); intro v89 w89 ho hb hg hat; have HO4 := aM ho; have HB4 := aM hb; have HM4 := aM (HM3.out.kept hg (HM3.out.ne_row HO3.out)); clear ho hb hg hat))
          go_roundg k1
          case measure => omega
          case rel =>
           have hnb := HNB.out
           have hi0 := HI0.out
           have hn := HN.out
           have hw : wrap64 (ix + n) = ix + n := by have := HLIM.out; unfold wrap64; omega
           have hnn : (ix + n).toNat = ix.toNat + n.toNat := by omega
           have hq := HQ2.out
           rw [← HEN.out, ← HY4.out, ← hnn] at hq
           have hpp : y77 ++ [jd % 256, jd / 256 % 256] = out ++ lz_Pack.part y4 (ix.toNat - kp.toNat) n.toNat := by
            rw [HY77.out, lz_Pack.part, if_neg (by have := H19.out; omega), HJN.out.1, HJN.out.2]
            simp
           rw [← hpp] at hq
           have hpl := HPL.out
           have hyl := HYL.out
           have hol := HOL.out
           refine ⟨_, sn, ix + n, ix + n, rfl, by rw [HJ6.out.1], by rw [HJ6.out.1], ⟨by have := HI.out; omega⟩, ⟨?_⟩, ⟨hq⟩, HO4, ⟨?_⟩, HB4⟩
           ·
            rw [hpp, List.length_append]
            omega
           ·
            have e : sn = ix := by have := HI.out; omega
            rw [e]
            exact HM4.out
def r05_four.f (l0 : List Int) (a1 : Int) (a2 : Int) : Option (Bool) := if 0 ≤ a1 then (if a1 < (l0.length : Int) then (if 0 ≤ a2 then (if a2 < (l0.length : Int) then (if (rd l0 a1) = (rd l0 a2) then (if 0 ≤ (wrap64 (a1 + 1)) then (if (wrap64 (a1 + 1)) < (l0.length : Int) then (if 0 ≤ (wrap64 (a2 + 1)) then (if (wrap64 (a2 + 1)) < (l0.length : Int) then (if (rd l0 (wrap64 (a1 + 1))) = (rd l0 (wrap64 (a2 + 1))) then (if 0 ≤ (wrap64 (a1 + 2)) then (if (wrap64 (a1 + 2)) < (l0.length : Int) then (if 0 ≤ (wrap64 (a2 + 2)) then (if (wrap64 (a2 + 2)) < (l0.length : Int) then (if (rd l0 (wrap64 (a1 + 2))) = (rd l0 (wrap64 (a2 + 2))) then (if 0 ≤ (wrap64 (a1 + 3)) then (if (wrap64 (a1 + 3)) < (l0.length : Int) then (if 0 ≤ (wrap64 (a2 + 3)) then (if (wrap64 (a2 + 3)) < (l0.length : Int) then (some ((rd l0 (wrap64 (a1 + 3))) == (rd l0 (wrap64 (a2 + 3))))) else (none)) else (none)) else (none)) else (none)) else (some false)) else (none)) else (none)) else (none)) else (none)) else (some false)) else (none)) else (none)) else (none)) else (none)) else (some false)) else (none)) else (none)) else (none)) else (none)
mutual
def r05_before.l0 : Nat → List Int → Int → Int → Option (Int)
 | 0, _, _, _ => none
 | k + 1, x0, x1, x5 => if x5 ≥ 0 then (r05_before.j1 k x0 x1 x5 (decide ((wrap64 (x1 - x5)) ≤ 65535))) else (r05_before.j1 k x0 x1 x5 false)
def r05_before.j1 : Nat → List Int → Int → Int → Bool → Option (Int)
 | 0, _, _, _, _ => none
 | k + 1, x0, x1, x5, x15 => if x15 = true then ((r05_four.f x0 x5 x1).bind fun t304 => (if t304 = true then (some x5) else (r05_before.l0 k x0 x1 (wrap64 (x5 - 1))))) else (some (-1))
end
def r05_before.f (k : Nat) (l0 : List Int) (a1 : Int) : Option (Int) := r05_before.l0 k l0 a1 (wrap64 (a1 - 1))
def r05_more.l0 : Nat → Int → List Int → Option (List Int)
 | 0, _, _ => none
 | k + 1, x0, x3 => if x0 ≥ 255 then (if x3.length < 140737488355328 then (r05_more.l0 k (wrap64 (x0 - 255)) (x3 ++ [255])) else (none)) else (if x3.length < 140737488355328 then (some (x3 ++ [(x0) % 256])) else (none))
def r05_more.f (k : Nat) (a0 : Int) : Option (List Int) := r05_more.l0 k a0 ([] : List Int)
mutual
def r05_part.j0 : Nat → List Int → Int → Int → Int → Int → Option (List Int)
 | 0, _, _, _, _, _ => none
 | k + 1, x0, x1, x2, x7, x8 => (some (([(wrap64 ((16 * x7) + x8)) % 256] : List Int) : List Int)).bind fun y311 => (if x7 = 15 then ((r05_more.f k (wrap64 ((x0.length : Int) - 15))).bind fun t314 => (if y311.length + t314.length < 140737488355328 then (r05_part.j1 k x0 x1 x2 x8 (y311 ++ t314)) else (none))) else (r05_part.j1 k x0 x1 x2 x8 y311))
def r05_part.j1 : Nat → List Int → Int → Int → Int → List Int → Option (List Int)
 | 0, _, _, _, _, _ => none
 | k + 1, x0, x1, x2, x8, x9 => if x9.length + x0.length < 140737488355328 then ((some (x9 ++ x0 : List Int)).bind fun y320 => (if x1 = 0 then (some y320) else ((some (([(Int.tmod x1 256) % 256, (wrap64 (Int.tdiv x1 256)) % 256] : List Int) : List Int)).bind fun y323 => (if y320.length + y323.length < 140737488355328 then ((some (y320 ++ y323 : List Int)).bind fun y326 => (if x8 = 15 then ((r05_more.f k (wrap64 (x2 - 19))).bind fun t329 => (if y326.length + t329.length < 140737488355328 then (some (y326 ++ t329)) else (none))) else (some y326))) else (none))))) else (none)
end
def r05_part.f (k : Nat) (l0 : List Int) (a1 : Int) (a2 : Int) : Option (List Int) := if a1 > 0 then (r05_part.j0 k l0 a1 a2 (mn 15 (l0.length : Int)) (mn 15 (wrap64 (a2 - 4)))) else (r05_part.j0 k l0 a1 a2 (mn 15 (l0.length : Int)) 0)
end Go.Proofs.Ythaifibhflfpkaa.Q
end
section
namespace Go.Proofs.Ythaifibhflfpkaa.Q
open Go.RowKit Go.Proofs.YthaifibhflfpkaaW.PrintWords Go.Proofs.YthaifibhflfpkaaW.PrintLast Go.Proofs.YthaifibhflfpkaaW.PrintMore Go.Proofs.YthaifibhflfpkaaX
namespace Law
theorem key_val {l : List Int} (hb : ∀ x ∈ l, 0 ≤ x ∧ x < 256) (i : Nat) (h : i + 4 ≤ l.length) : lz_Pack.keyAt l i = rd l i + 256 * rd l ((i : Int) + 1) + 65536 * rd l ((i : Int) + 2) + 16777216 * rd l ((i : Int) + 3) := by
  have hl : (l.drop i).length = l.length - i := List.length_drop
  unfold lz_Pack.keyAt lz_key.f
  rw [if_pos (by omega), if_pos (by omega), if_pos (by omega), if_pos (by omega), Option.getD_some]
  rw [rd_drop l i 0 (by omega), rd_drop l i 1 (by omega), rd_drop l i 2 (by omega), rd_drop l i 3 (by omega), Int.add_zero]
  have h0 := rd_byte hb (i : Int)
  have h1 := rd_byte hb ((i : Int) + 1)
  have h2 := rd_byte hb ((i : Int) + 2)
  have h3 := rd_byte hb ((i : Int) + 3)
  generalize rd l (i : Int) = a at *
  generalize rd l ((i : Int) + 1) = b at *
  generalize rd l ((i : Int) + 2) = c at *
  generalize rd l ((i : Int) + 3) = d at *
  have e0 : a % 4294967296 = a := by omega
  have e1 : b % 4294967296 * 256 % 4294967296 = 256 * b := by omega
  have e2 : c % 4294967296 * 65536 % 4294967296 = 65536 * c := by omega
  have e3 : d % 4294967296 * 16777216 % 4294967296 = 16777216 * d := by omega
  rw [e0, e1, e2, e3]
  rw [or_join .u32 32 (by decide) wraps_u32 8 a (256 * b) (by omega) (by omega) (by omega) (by omega) (by omega) (by omega)]
  rw [or_join .u32 32 (by decide) wraps_u32 16 (a + 256 * b) (65536 * c) (by omega) (by omega) (by omega) (by omega) (by omega) (by omega)]
  rw [or_join .u32 32 (by decide) wraps_u32 24 (a + 256 * b + 65536 * c) (16777216 * d) (by omega) (by omega) (by omega) (by omega) (by omega) (by omega)]
theorem four {l : List Int} (hb : ∀ x ∈ l, 0 ≤ x ∧ x < 256) (hl : l.length < 1000000000000) (i k : Nat) (hi : i + 4 ≤ l.length) (hk : k + 4 ≤ l.length) : r05_four.f l (i : Int) (k : Int) = some (decide (lz_Pack.keyAt l i = lz_Pack.keyAt l k)) := by
  rw [key_val hb i hi, key_val hb k hk]
  have w1 : ∀ j : Nat, j + 4 ≤ l.length → wrap64 ((j : Int) + 1) = (j : Int) + 1 ∧ wrap64 ((j : Int) + 2) = (j : Int) + 2 ∧ wrap64 ((j : Int) + 3) = (j : Int) + 3 := by
    intro j hj
    unfold wrap64
    omega
  obtain ⟨a1, a2, a3⟩ := w1 i hi
  obtain ⟨b1, b2, b3⟩ := w1 k hk
  unfold r05_four.f
  rw [a1, a2, a3, b1, b2, b3]
  have h0 := rd_byte hb (i : Int)
  have h1 := rd_byte hb ((i : Int) + 1)
  have h2 := rd_byte hb ((i : Int) + 2)
  have h3 := rd_byte hb ((i : Int) + 3)
  have g0 := rd_byte hb (k : Int)
  have g1 := rd_byte hb ((k : Int) + 1)
  have g2 := rd_byte hb ((k : Int) + 2)
  have g3 := rd_byte hb ((k : Int) + 3)
  generalize rd l (i : Int) = a at *
  generalize rd l ((i : Int) + 1) = b at *
  generalize rd l ((i : Int) + 2) = c at *
  generalize rd l ((i : Int) + 3) = d at *
  generalize rd l (k : Int) = a' at *
  generalize rd l ((k : Int) + 1) = b' at *
  generalize rd l ((k : Int) + 2) = c' at *
  generalize rd l ((k : Int) + 3) = d' at *
  rw [if_pos (by omega), if_pos (by omega), if_pos (by omega), if_pos (by omega)]
  by_cases e1 : a = a'
  · rw [if_pos e1, if_pos (by omega), if_pos (by omega), if_pos (by omega), if_pos (by omega)]
    by_cases e2 : b = b'
    · rw [if_pos e2, if_pos (by omega), if_pos (by omega), if_pos (by omega), if_pos (by omega)]
      by_cases e3 : c = c'
      · rw [if_pos e3, if_pos (by omega), if_pos (by omega), if_pos (by omega), if_pos (by omega)]
        congr 1
        rw [Bool.eq_iff_iff, beq_iff_eq, decide_eq_true_iff]
        omega
      · rw [if_neg e3, decide_eq_false (by omega)]
    · rw [if_neg e2, decide_eq_false (by omega)]
  · rw [if_neg e1, decide_eq_false (by omega)]
def beforeT (l : List Int) (i j : Nat) : Int := match lz_Pack.lastAt l j (lz_Pack.keyAt l i) with
  | some k => if i - k.toNat > 65535 then -1 else k
  | none => -1
theorem before_loop {l : List Int} (hb : ∀ x ∈ l, 0 ≤ x ∧ x < 256) (hl : l.length < 1000000000000) (i : Nat) (hi : i + 4 ≤ l.length) : ∀ j, j ≤ i → Ev (fun k => r05_before.l0 k l (i : Int) ((j : Int) - 1)) (beforeT l i j)
  | 0, _ => by
    refine Ev.step (f := fun k => r05_before.j1 k l (i : Int) (((0 : Nat) : Int) - 1) false) (fun k => ?_) ?_
    · rw [r05_before.l0, if_neg (by omega)]
    · refine Ev.step (f := fun _ => some (-1)) (fun k => ?_) (Ev.now _)
      rw [r05_before.j1, if_neg (by decide)]
  | j + 1, hj => by
    have ih := before_loop hb hl i hi j (by omega)
    have e : ((j + 1 : Nat) : Int) - 1 = (j : Int) := by omega
    have hw : wrap64 ((i : Int) - (j : Int)) = (i : Int) - (j : Int) := by unfold wrap64; omega
    have hw2 : wrap64 ((j : Int) - 1) = (j : Int) - 1 := by unfold wrap64; omega
    rw [e]
    refine Ev.step (f := fun k => r05_before.j1 k l (i : Int) (j : Int) (decide (wrap64 ((i : Int) - (j : Int)) ≤ 65535))) (fun k => ?_) ?_
    · rw [r05_before.l0, if_pos (by omega)]
    · rw [hw]
      by_cases hd : (i : Int) - (j : Int) ≤ 65535
      · rw [decide_eq_true hd]
        by_cases hk : lz_Pack.keyAt l j = lz_Pack.keyAt l i
        · have hr : beforeT l i (j + 1) = (j : Int) := by
            unfold beforeT
            simp only [lz_Pack.lastAt, upd, hk, if_true]
            rw [if_neg (by omega)]
          rw [hr]
          refine Ev.step (f := fun _ => some (j : Int)) (fun k => ?_) (Ev.now _)
          rw [r05_before.j1, if_pos rfl, four hb hl j i (by omega) hi, Option.bind_some, decide_eq_true hk, if_pos rfl]
        · have hr : beforeT l i (j + 1) = beforeT l i j := by
            unfold beforeT
            simp only [lz_Pack.lastAt, upd, if_neg (Ne.symm hk)]
          rw [hr]
          refine Ev.step (fun k => ?_) ih
          rw [r05_before.j1, if_pos rfl, four hb hl j i (by omega) hi, Option.bind_some, decide_eq_false hk, if_neg (by decide), hw2]
      · rw [decide_eq_false hd]
        have hr : beforeT l i (j + 1) = -1 := by
          unfold beforeT
          cases h : lz_Pack.lastAt l (j + 1) (lz_Pack.keyAt l i) with
          | none => rfl
          | some q =>
            have := lz_Pack.last_lt l _ q _ h
            simp only
            rw [if_pos (by omega)]
        rw [hr]
        refine Ev.step (f := fun _ => some (-1)) (fun k => ?_) (Ev.now _)
        rw [r05_before.j1, if_neg (by decide)]
theorem before {l : List Int} (hb : ∀ x ∈ l, 0 ≤ x ∧ x < 256) (hl : l.length < 1000000000000) (i : Nat) (hi : i + 4 ≤ l.length) : Ev (fun k => r05_before.f k l (i : Int)) (beforeT l i i) := by
  unfold r05_before.f
  have hw2 : wrap64 ((i : Int) - 1) = (i : Int) - 1 := by unfold wrap64; omega
  rw [hw2]
  exact before_loop hb hl i hi i (Nat.le_refl _)
theorem more_loop : ∀ (d n : Nat) (x : List Int), n / 255 = d → x.length + d < 1000000000000 → n < 1000000000000 → Ev (fun k => r05_more.l0 k (n : Int) x) (x ++ lz_Pack.layT n)
  | 0, n, x, hd, hx, hn => by
    refine Ev.step (f := fun _ => some (x ++ [(n : Int) % 256])) (fun k => ?_) ?_
    · rw [r05_more.l0, if_neg (by omega), if_pos (by omega)]
    · have e : lz_Pack.layT n = [(n : Int) % 256] := by
        unfold lz_Pack.layT
        rw [hd]
        have : ((n % 255 : Nat) : Int) = (n : Int) % 256 := by omega
        rw [this]
        rfl
      rw [e]
      exact Ev.now _
  | d + 1, n, x, hd, hx, hn => by
    have ih := more_loop d (n - 255) (x ++ [255]) (by omega) (by simp; omega) (by omega)
    have hw : wrap64 ((n : Int) - 255) = ((n - 255 : Nat) : Int) := by unfold wrap64; omega
    have e : x ++ [255] ++ lz_Pack.layT (n - 255) = x ++ lz_Pack.layT n := by
      unfold lz_Pack.layT
      have e1 : n / 255 = (n - 255) / 255 + 1 := by omega
      have e2 : n % 255 = (n - 255) % 255 := by omega
      rw [e1, e2, List.replicate_succ]
      simp
    rw [e] at ih
    refine Ev.step (fun k => ?_) ih
    rw [r05_more.l0, if_pos (by omega), if_pos (by omega), hw]
theorem more (n : Nat) (hn : n < 1000000000000) : Ev (fun k => r05_more.f k (n : Int)) (lz_Pack.layT n) := by
  unfold r05_more.f
  simpa using more_loop _ n [] rfl (by simp; omega) hn
def farT (d n : Nat) : List Int := if d = 0 then [] else [((d % 256 : Nat) : Int), ((d / 256 % 256 : Nat) : Int)] ++ (if 19 ≤ n then lz_Pack.layT (n - 19) else [])
theorem distB (d : Nat) (hd : d ≤ 65535) : Int.tmod (d : Int) 256 % 256 = ((d % 256 : Nat) : Int) ∧ wrap64 (Int.tdiv (d : Int) 256) % 256 = ((d / 256 % 256 : Nat) : Int) := by
  rw [Int.tmod_eq_emod_of_nonneg (by omega), Int.tdiv_eq_ediv_of_nonneg (by omega)]
  unfold wrap64
  omega
theorem part_j1 (lits x : List Int) (d n : Nat) (hl : lits.length < 100000000000) (hx : x.length < 1000000000000) (hd : d ≤ 65535) (hn : n < 100000000000) (x8 : Int) (h8 : d ≠ 0 → x8 = ((min 15 (n - 4) : Nat) : Int)) (h4 : d ≠ 0 → 4 ≤ n) : Ev (fun k => r05_part.j1 k lits (d : Int) (n : Int) x8 x) (x ++ lits ++ farT d n) := by
  have H8 : Hid (d ≠ 0 → x8 = ((min 15 (n - 4) : Nat) : Int)) := Lib.hid h8
  have H4 : Hid (d ≠ 0 → 4 ≤ n) := Lib.hid h4
  clear h8 h4
  by_cases h0 : d = 0
  · subst h0
    refine Ev.step (f := fun _ => some (x ++ lits)) (fun k => ?_) ?_
    · rw [r05_part.j1, if_pos (by omega), Option.bind_some, if_pos (by omega)]
    · simpa [farT] using Ev.now (x ++ lits)
  · have h8 := H8.out h0
    have h4 := H4.out h0
    by_cases h19 : 19 ≤ n
    · have hm : Ev (fun k => r05_more.f k (wrap64 ((n : Int) - 19))) (lz_Pack.layT (n - 19)) := by
        have hw : wrap64 ((n : Int) - 19) = ((n - 19 : Nat) : Int) := w64_sub n 19 h19 (by omega)
        rw [hw]
        exact more (n - 19) (by omega)
      have hlen : (lz_Pack.layT (n - 19)).length < 1000000000000 := by unfold lz_Pack.layT; simp; omega
      refine Ev.step (f := fun k => (r05_more.f k (wrap64 ((n : Int) - 19))).bind fun t => if (x ++ lits ++ [((d % 256 : Nat) : Int), ((d / 256 % 256 : Nat) : Int)]).length + t.length < 140737488355328 then some (x ++ lits ++ [((d % 256 : Nat) : Int), ((d / 256 % 256 : Nat) : Int)] ++ t) else none) (fun k => ?_) ?_
      · rw [r05_part.j1, if_pos (by omega), Option.bind_some, if_neg (by omega), Option.bind_some, (distB d hd).1, (distB d hd).2, if_pos (by simp; omega), Option.bind_some, if_pos (by omega)]
      · refine Ev.bind hm (Ev.pos (by simp; omega) ?_)
        have e : x ++ lits ++ farT d n = x ++ lits ++ [((d % 256 : Nat) : Int), ((d / 256 % 256 : Nat) : Int)] ++ lz_Pack.layT (n - 19) := by
          unfold farT
          rw [if_neg h0, if_pos h19]
          simp
        rw [e]
        exact Ev.now _
    · refine Ev.step (f := fun _ => some (x ++ lits ++ farT d n)) (fun k => ?_) (Ev.now _)
      rw [r05_part.j1, if_pos (by omega), Option.bind_some, if_neg (by omega), Option.bind_some, (distB d hd).1, (distB d hd).2, if_pos (by simp; omega), Option.bind_some, if_neg (by omega)]
      unfold farT
      rw [if_neg h0, if_neg h19, List.append_nil]
theorem headB (m : Nat) (a : Nat) : wrap64 (16 * ((min a 15 : Nat) : Int) + ((min 15 m : Nat) : Int)) % 256 = ((16 * min a 15 + min m 15 : Nat) : Int) := by unfold wrap64; omega
theorem part_j0 (lits : List Int) (d n m : Nat) (hl : lits.length < 100000000000) (hd : d ≤ 65535) (hn : n < 100000000000) (hm : d ≠ 0 → m = n - 4 ∧ 4 ≤ n) : Ev (fun k => r05_part.j0 k lits (d : Int) (n : Int) (mn 15 (lits.length : Int)) ((min 15 m : Nat) : Int)) (lz_Pack.litT lits m ++ farT d n) := by
  have HM : Hid (d ≠ 0 → m = n - 4 ∧ 4 ≤ n) := Lib.hid hm
  clear hm
  have e1 : mn 15 (lits.length : Int) = ((min lits.length 15 : Nat) : Int) := by unfold mn; split <;> omega
  rw [e1]
  have e2' := headB m lits.length
  by_cases h15 : 15 ≤ lits.length
  · have hm' : Ev (fun k => r05_more.f k (wrap64 ((lits.length : Int) - 15))) (lz_Pack.layT (lits.length - 15)) := by
      rw [w64_subl _ 15 15 rfl h15 (by omega)]
      exact more _ (by omega)
    have hlen : (lz_Pack.layT (lits.length - 15)).length < 1000000000 := by unfold lz_Pack.layT; simp; omega
    have h1 := part_j1 lits ([((16 * min lits.length 15 + min m 15 : Nat) : Int)] ++ lz_Pack.layT (lits.length - 15)) d n hl (by simp; omega) hd hn ((min 15 m : Nat) : Int) (fun h => by rw [(HM.out h).1]) (fun h => (HM.out h).2)
    have e3 : lz_Pack.litT lits m ++ farT d n = [((16 * min lits.length 15 + min m 15 : Nat) : Int)] ++ lz_Pack.layT (lits.length - 15) ++ lits ++ farT d n := by
      unfold lz_Pack.litT
      rw [if_pos h15]
      simp
    rw [e3]
    refine Ev.step (fun k => ?_) (Ev.bind hm' (f := fun k t => if [((16 * min lits.length 15 + min m 15 : Nat) : Int)].length + t.length < 140737488355328 then r05_part.j1 k lits (d : Int) (n : Int) ((min 15 m : Nat) : Int) ([((16 * min lits.length 15 + min m 15 : Nat) : Int)] ++ t) else none) (Ev.pos (by simp; omega) h1))
    rw [r05_part.j0, e2', Option.bind_some, if_pos (by omega)]
  · have h1 := part_j1 lits [((16 * min lits.length 15 + min m 15 : Nat) : Int)] d n hl (by simp) hd hn ((min 15 m : Nat) : Int) (fun h => by rw [(HM.out h).1]) (fun h => (HM.out h).2)
    have e3 : lz_Pack.litT lits m ++ farT d n = [((16 * min lits.length 15 + min m 15 : Nat) : Int)] ++ lits ++ farT d n := by
      unfold lz_Pack.litT
      rw [if_neg h15]
      simp
    rw [e3]
    refine Ev.step (fun k => ?_) h1
    rw [r05_part.j0, e2', Option.bind_some, if_neg (by omega)]
theorem part (lits : List Int) (d n : Nat) (hl : lits.length < 100000000000) (hd0 : 0 < d) (hd : d ≤ 65535) (hn : n < 100000000000) (h4 : 4 ≤ n) : Ev (fun k => r05_part.f k lits (d : Int) (n : Int)) (lz_Pack.part lits d n) := by
  unfold r05_part.f
  refine Ev.pos (by omega) ?_
  have h := part_j0 lits d n (n - 4) hl hd hn (fun _ => ⟨rfl, h4⟩)
  have e : mn 15 (wrap64 ((n : Int) - 4)) = ((min 15 (n - 4) : Nat) : Int) := by
    rw [w64_subl n 4 4 rfl h4 (by omega)]
    unfold mn
    split <;> omega
  rw [e]
  unfold lz_Pack.part
  unfold farT at h
  rw [if_neg (by omega)] at h
  exact h
theorem pack' {l : List Int} (hl : l.length < 10000000000) : lz_Pack.f l = some (lz_Pack.go l (l.length + 1) 0 0 []) := by
  unfold lz_Pack.f
  rw [if_pos (by omega)]
end Law
end Go.Proofs.Ythaifibhflfpkaa.Q
end
section
namespace Go.Proofs.Ythaifibhflfpkaa.Q
open Go.RowKit Go.Proofs.YthaifibhflfpkaaW.PrintWords Go.Proofs.YthaifibhflfpkaaW.PrintLast Go.Proofs.YthaifibhflfpkaaW.PrintMore Go.Proofs.YthaifibhflfpkaaX
attribute [local go_sem] max2_int min2_int max_two min_two max_three min_three max_four min_four   -- for this text's walks alone
set_option linter.unusedVariables false
set_option linter.unusedSimpArgs false
def bytes_Join.enc (l : List Int) : List UInt8 := l.map fun x => UInt8.ofNat x.toNat
def bytes_Join.f (l0 : List (List Int)) (l1 : List Int) : Option (List Int) :=
 if l1.length = 0 ∧ (∀ l ∈ l0, ∀ x ∈ l, 0 ≤ x ∧ x < 256) ∧ l0.flatten.length ≤ 140737488355328 ∧ l0.length ≤ 140737488355328 then some l0.flatten else none
theorem bytes_Join.enc_num {l : List Int} (h : ∀ x ∈ l, 0 ≤ x ∧ x < 256) (i : Nat) (x : UInt8) (hx : (bytes_Join.enc l)[i]? = some x) : l[i]? = some (x.toNat : Int) := by
 simp only [bytes_Join.enc, List.getElem?_map, Option.map_eq_some_iff] at hx
 obtain ⟨y, hy, rfl⟩ := hx
 have hm := h y (List.mem_of_getElem? hy)
 rw [hy]
 congr 1
 have : (UInt8.ofNat y.toNat).toNat = y.toNat := by
  rw [UInt8.toNat_ofNat']
  omega
 omega
theorem bytes_Join.lens_enc (l0 : List (List Int)) : Lib.lens (l0.map bytes_Join.enc) = l0.flatten.length := by
 induction l0 with
 | nil => rfl
 | cons a r ih =>
  rw [List.map_cons, Lib.lens_cons, ih, List.flatten_cons, List.length_append]
  simp [bytes_Join.enc]
theorem bytes_Join.join_enc (l0 : List (List Int)) : Lib.join (l0.map bytes_Join.enc) [] = bytes_Join.enc l0.flatten := by
 cases l0 with
 | nil => rfl
 | cons a r =>
  rw [List.map_cons, Lib.join_cons, List.flatten_cons]
  have : Lib.joinTail [] (r.map bytes_Join.enc) = bytes_Join.enc r.flatten := by
   unfold Lib.joinTail
   induction r with
   | nil => rfl
   | cons b s ih => simpa [bytes_Join.enc] using ih
  rw [this]
  simp [bytes_Join.enc]
theorem bytes_Join.holds {w : World} {A : Option Addr} {c : Nat} {l : List Int} (hr : Kd.C (Kd.int .u8) w A l.length l) (h : ∀ x ∈ l, 0 ≤ x ∧ x < 256) : Lib.HoldsBytes w (.slice A l.length c) (bytes_Join.enc l) := by
 have hl : (bytes_Join.enc l).length = l.length := by simp [bytes_Join.enc]
 refine ⟨A, c, by rw [hl], fun ha => ?_, fun a ha i x hx => ?_⟩
 ·
  rcases Nat.eq_zero_or_pos l.length with h0 | h0
  · exact List.eq_nil_of_length_eq_zero (by rw [hl, h0])
  ·
   obtain ⟨_, h', _⟩ := hr.2.2 h0
   rw [ha] at h'
   cases h'
 ·
  have hx' := bytes_Join.enc_num h i x hx
  have hi : i < l.length := (List.getElem?_eq_some_iff.1 hx').1
  obtain ⟨ad, e, hc⟩ := hr.2.2 (by omega)
  rw [ha] at e
  injection e with e
  subst e
  obtain ⟨cs, hs, hk, hcell⟩ := hc i _ hx'
  have hk' : cs = [.int .u8 (x.toNat : Int)] := hk
  subst hk'
  simpa [Kd.int, Kd.scalar] using hcell 0 _ rfl
theorem bytes_Join.toV {w w' : World} {v : Value} {l : List Int} (h : ∀ x ∈ l, 0 ≤ x ∧ x < 256) (hf : Lib.FreshBytes w.heap.size w' v (bytes_Join.enc l)) : Kd.V (Kd.int .u8) 5 w' w.heap.size (fun k_ => w.heap.size ≤ k_) v l := by
 obtain ⟨g, cap, zs, rfl, hg, hlc, hcm, hz, hzr, hb, hcell, _⟩ := hf
 have hl : (bytes_Join.enc l).length = l.length := by simp [bytes_Join.enc]
 rw [hl] at hb hlc ⊢
 have hzs : ∀ i x, l[i]? = some x → zs.getD i 0 = x := by
  intro i x hx
  have hi : i < l.length := (List.getElem?_eq_some_iff.1 hx).1
  have h1 : (Lib.bytesOf (zs.take l.length))[i]? = (bytes_Join.enc l)[i]? := by rw [hb]
  simp only [Lib.bytesOf, bytes_Join.enc, List.getElem?_map, List.getElem?_take_of_lt hi, hx, Option.map_some] at h1
  rw [List.getElem?_eq_getElem (by omega : i < zs.length), Option.map_some] at h1
  injection h1 with h1
  have hm := h x (List.mem_of_getElem? hx)
  have hm2 := hzr _ (List.getElem_mem (by omega : i < zs.length))
  rw [List.getD_eq_getElem?_getD, List.getElem?_eq_getElem (by omega : i < zs.length), Option.getD_some]
  have h2 := congrArg UInt8.toNat h1
  simp only [UInt8.toNat_ofNat'] at h2
  omega
 refine Kd.V_mk hlc fun W' hW => ⟨rfl, by simp only [maxLen] at hcm; omega, fun hn => ⟨_, rfl, fun j p hj => ⟨[.int .u8 p], rfl, rfl, fun i u hu => ?_⟩⟩⟩
 have hj' : j < l.length := (List.getElem?_eq_some_iff.1 hj).1
 have hi0 : i = 0 := by
  have := (List.getElem?_eq_some_iff.1 hu).1
  simpa using this
 subst hi0
 have hu' : Value.int .u8 p = u := by simpa using hu
 subst hu'
 have hc0 := hcell j (by omega)
 rw [hzs j p hj] at hc0
 have hlt : g < w'.heap.size := by
  unfold World.cell? at hc0
  rcases Nat.lt_or_ge g w'.heap.size with h | h
  · exact h
  ·
   rw [Array.getElem?_eq_none h] at hc0
   cases hc0
 have hW' := hW g hg hlt
 have : (⟨g, 0, none⟩ : Addr).add (j * 1 + 0) = ⟨g, j, none⟩ := by
  unfold Addr.add
  by_cases h0 : j = 0
  ·
   subst h0
   rfl
  · simp [h0]
 show W'.cell? ((⟨g, 0, none⟩ : Addr).add (j * 1 + 0)) = _
 rw [this]
 unfold World.cell? at hc0 ⊢
 simp only [hW'] at hc0 ⊢
 exact hc0
theorem bytes_Join.spot {w : World} {ad : Addr} {v : Value} (h : w.cell? (ad.add 0) = some v) : ad = ⟨ad.block, ad.off, none⟩ := by
 rcases ad with ⟨b, o, s⟩
 rcases s with _ | s
 · rfl
 ·
  unfold World.cell? Addr.add at h
  simp at h
  split at h <;> simp at h
set_option maxHeartbeats 8000000 in
set_option maxRecDepth 100000 in
theorem bytes_Join.calls (A0 : Option Addr) (c0 : Nat) (l0 : List (List Int)) (A1 : Option Addr) (c1 : Nat) (l1 : List Int) (r : List Int) (w : World) (hr0 : Kd.C (Kd.slice 5 (Kd.int .u8)) w A0 l0.length l0) (hc0 : l0.length ≤ c0) (hr1 : Kd.C (Kd.int .u8) w A1 l1.length l1) (hc1 : l1.length ≤ c1) (h : bytes_Join.f l0 l1 = some r) :
  Calls Try.prog 16 #[.slice A0 l0.length c0, .slice A1 l1.length c1] w fun e w' => ∃ v0_ : Value, e = .returned (v0_) ∧ Kd.V (Kd.int .u8) 5 w' w.heap.size (fun k_ => w.heap.size ≤ k_) v0_ r ∧ Below w.heap.size w w' := by
 unfold bytes_Join.f at h
 split at h
 case isFalse => exact absurd h (by simp)
 case isTrue hc =>
 obtain ⟨h1, hb, hlen, hn⟩ := hc
 obtain rfl := Option.some.inj h
 have hl1 : l1 = [] := List.eq_nil_of_length_eq_zero h1
 subst hl1
 have hfl : ∀ x ∈ l0.flatten, 0 ≤ x ∧ x < 256 := by
  intro x hx
  obtain ⟨l, hl, hxl⟩ := List.mem_flatten.1 hx
  exact hb l hl x hxl
 match l0, hr0, hc0, hb, hlen, hn, hfl with
 | [], hr0, hc0, hb, hlen, hn, hfl =>
  refine (Try.bytes_Join_none A0 c0 _ w).mono ?_
  rintro e w' ⟨rfl, rfl⟩
  exact ⟨_, rfl, ⟨some ⟨w.heap.size, 0, none⟩, 0, rfl, Nat.le_refl _, fun W' _ => ⟨rfl, Nat.zero_le _, fun h => absurd h (Nat.lt_irrefl 0)⟩⟩, below_alloc (Below.refl _ _) _⟩
 | [x], hr0, hc0, hb, hlen, hn, hfl =>
  obtain ⟨ad, rfl, hrow⟩ := hr0.2.2 (by simp)
  obtain ⟨cs, _, hk, hcell⟩ := hrow 0 x rfl
  obtain ⟨Ax, cx, rfl, hlx, hcx⟩ := hk
  have hc0' := hcell 0 _ rfl
  have e0 : ad.add (0 * Kd.sz (Kd.slice 5 (Kd.int .u8)) + 0) = ad.add 0 := by simp
  rw [e0] at hc0'
  have hsp := bytes_Join.spot hc0'
  have ha0 : ad.add 0 = ad := rfl
  rw [ha0, hsp] at hc0'
  rw [hsp]
  have hx : ∀ y ∈ x, 0 ≤ y ∧ y < 256 := hb x (by simp)
  rcases Nat.eq_zero_or_pos x.length with hx0 | hx0
  ·
   have hxn : x = [] := List.eq_nil_of_length_eq_zero hx0
   subst hxn
   refine (Try.bytes_Join_one_empty ad.block ad.off c0 Ax cx _ w hc0').mono ?_
   rintro e w' ⟨rfl, rfl⟩
   exact ⟨_, rfl, Kd.V_nil _ _ _ _ _, Below.refl _ _⟩
  ·
   obtain ⟨ax, rfl, _⟩ := hcx.2.2 hx0
   have hle : (bytes_Join.enc x).length = x.length := by simp [bytes_Join.enc]
   have hh := bytes_Join.holds (c := cx) hcx hx
   obtain ⟨p', cap', e', _, hcells⟩ := hh
   injection e' with e1 _ e3
   subst e1; subst e3
   have hlen' : x.length ≤ 140737488355328 := by simpa using hlen
   refine (Try.bytes_Join_one ad.block ad.off c0 ax cx (bytes_Join.enc x) _ w (by rw [hle]; exact hc0') (fun i y hy => hcells ax rfl i y hy) (by omega) (by omega)).mono ?_
   rintro e w' ⟨v', rfl, hf, hbl⟩
   have hfx : [x].flatten = x := by simp
   exact ⟨_, rfl, by rw [hfx]; exact bytes_Join.toV hx hf, hbl⟩
 | x :: y :: t, hr0, hc0, hb, hlen, hn, hfl =>
  generalize hl0 : x :: y :: t = l0 at hr0 hc0 hb hlen hn hfl ⊢
  have h2 : 2 ≤ l0.length := by rw [← hl0]; simp
  obtain ⟨ad, rfl, hrow⟩ := hr0.2.2 (by omega)
  have hsp : ad = ⟨ad.block, ad.off, none⟩ := by
   obtain ⟨cs, _, hk, hcell⟩ := hrow 0 l0[0] (List.getElem?_eq_getElem (by omega))
   obtain ⟨Ax, cx, rfl, hlx, hcx⟩ := hk
   have hc0' := hcell 0 _ rfl
   have e0 : ad.add (0 * Kd.sz (Kd.slice 5 (Kd.int .u8)) + 0) = ad.add 0 := by simp
   rw [e0] at hc0'
   exact bytes_Join.spot hc0'
  have hvs : ∀ j, ∃ v, ∀ p, l0[j]? = some p → w.cell? (ad.add j) = some v ∧ Lib.HoldsBytes w v (bytes_Join.enc p) := by
   intro j
   rcases Nat.lt_or_ge j l0.length with hj | hj
   ·
    obtain ⟨cs, _, hk, hcell⟩ := hrow j l0[j] (List.getElem?_eq_getElem hj)
    obtain ⟨Ax, cx, rfl, hlx, hcx⟩ := hk
    refine ⟨.slice Ax l0[j].length cx, fun p hp => ?_⟩
    rw [List.getElem?_eq_getElem hj] at hp
    injection hp with hp
    subst hp
    exact ⟨by simpa [Kd.slice] using hcell 0 _ rfl, bytes_Join.holds hcx (hb _ (List.getElem_mem hj))⟩
   ·
    refine ⟨.slice none 0 0, fun p hp => ?_⟩
    rw [List.getElem?_eq_none hj] at hp
    cases hp
  let vf : Nat → Value := fun j => Classical.choose (hvs j)
  have hvf : ∀ j p, l0[j]? = some p → w.cell? (ad.add j) = some (vf j) ∧ Lib.HoldsBytes w (vf j) (bytes_Join.enc p) := fun j => Classical.choose_spec (hvs j)
  have hP : Lib.PartsAt w ad ((List.range l0.length).map vf) (l0.map bytes_Join.enc) := by
   refine ⟨by simp, fun i v hv => ?_, fun i v l hv hl => ?_⟩
   ·
    simp only [List.getElem?_map, Option.map_eq_some_iff] at hv
    obtain ⟨k, hk, rfl⟩ := hv
    obtain ⟨hi, rfl⟩ := List.getElem?_eq_some_iff.1 hk
    simp only [List.length_range] at hi
    rw [List.getElem_range]
    exact (hvf i _ (List.getElem?_eq_getElem hi)).1
   ·
    simp only [List.getElem?_map, Option.map_eq_some_iff] at hv hl
    obtain ⟨k, hk, rfl⟩ := hv
    obtain ⟨hi, rfl⟩ := List.getElem?_eq_some_iff.1 hk
    obtain ⟨p, hp, rfl⟩ := hl
    rw [List.getElem_range]
    exact (hvf i p hp).2
  rw [hsp] at hP ⊢
  have hS := bytes_Join.holds (c := c1) hr1 (fun x hx => by simp at hx)
  refine (Try.bytes_Join_many ad.block ad.off l0.length c0 _ (l0.map bytes_Join.enc) _ (bytes_Join.enc []) w (by simp) h2 hP hc0 hS hn (by rw [bytes_Join.lens_enc]; simpa [bytes_Join.enc] using hlen)).mono ?_
  rintro e w' ⟨v', rfl, hf, hbl⟩
  rw [show bytes_Join.enc [] = [] from rfl, bytes_Join.join_enc] at hf
  exact ⟨_, rfl, bytes_Join.toV hfl hf, hbl⟩
def bytes_Clone.f (l0 : List Int) : Option (List Int) := if l0.length < 140737488355328 then some l0 else none
set_option maxHeartbeats 8000000 in
set_option maxRecDepth 100000 in
theorem bytes_Clone.calls (A0 : Option Addr) (c0 : Nat) (l0 : List Int) (r : List Int) (w : World) (hr0 : Kd.C (Kd.int .u8) w A0 l0.length l0) (hc0 : l0.length ≤ c0) (h : bytes_Clone.f l0 = some r) :
  Calls Try.prog 21 #[.slice A0 l0.length c0] w fun e w' => ∃ v0_ : Value, e = .returned (v0_) ∧ Kd.R (Kd.int .u8) 5 w' w.heap.size (fun _ => True) v0_ r ∧ Below w.heap.size w w' := by
 have HR0 := aM hr0
 have HC0 := aM hc0
 clear hr0 hc0
 have HB := aM (Below.refl w.heap.size w)
 unfold bytes_Clone.f at h
 split at h
 case isFalse => exact absurd h (by simp)
 case isTrue hl =>
 obtain rfl := Option.some.inj h
 clear h
 have LM := aM hl
 clear hl
 rcases A0 with _ | ad
 ·
  have H0 : Aside0 (l0 = []) := ⟨by
   rcases Nat.eq_zero_or_pos l0.length with h | h
   · exact List.eq_nil_of_length_eq_zero h
   ·
    obtain ⟨a, h', _⟩ := HR0.out.2.2 h
    cases h'⟩
  have keq := fun W : World => Lib.run_eql_slice_nil (P := Try.prog) W 22 5 none l0.length c0 0 0 Try.underlying22
  go_enter Try.func21, Try.ntmps21
  go_wp2
  go_ret
  exact ⟨_, rfl, by rw [H0.out]; exact Kd.R_nil _ _ _ _ _, HB.out⟩
 ·
  have keq := fun W : World => Lib.run_eql_slice_nil (P := Try.prog) W 22 5 (some ad) l0.length c0 0 0 Try.underlying22
  go_enter Try.func21, Try.ntmps21
  go_wp2_with (first | ((with_reducible refine gate_dst (N := 5) rfl ?_); refine Kd.R_lit (Kd.int .u8) _ 5 ?hg (N := 5) ?hd (xs := ([] : List Int)) (inner := []) (ok := fun _ => True) (okp := fun _ => True) ?hr ?hp (fun _ hk => hk) trivial (Below.refl _ _) (Nat.le_refl _) (by simp) ?_; (case hd => rfl); (case hg => rfl); (case hr => first | (go_simp; done) | (go_simp; rfl)); (case hp => exact (Reps.none _ _)); intro v1 w1 ho1 hb hg_ hnew_; clear hg_ hnew_; have HO1 := aM (Kd.R_lower ho1 (below_size (xB HB.out))); have HB1 := aM (below_step (xB HB.out) hb); clear HB; have HB := HB1; clear HB1 hb ho1) | ((with_reducible refine gate_builtin (b := .append) (xs := #[.tmp 5, .tmp 6]) rfl ?_); at_builtin; refine Kd.R_append_rows (Kd.int .u8) (w0 := w) w.heap.size rfl (.tmp 5) (.tmp 6) 22 5 (.int .u8 0) 1 rfl Try.underlying22 info5 rfl (by decide) (by omega) v1 [] l0 _ _ _ (fun _ => True) (fun _ => False) rfl rfl ?aO ?aR (fun _ _ h => h) (fun _ h => h.elim) ?aF ?aB ?aS ?aL ?_; (case aR => exact (Kd.C_below HR0.out HB.out)); (case aB => exact HB.out); (case aF => exact (fun _ _ => trivial)); (case aO => exact HO1.out); (case aS => exact (below_size HB.out)); (case aL => have := LM.out; simp only [List.length_nil]; omega); intro v2 w2 ho hb hg hat; have HB2 := aM hb; have HO2 := aM ho; clear HB HO1; have HB := HB2; clear HB2 ho hb hg hat))
  go_ret
  exact ⟨_, rfl, by simpa using HO2.out, HB.out⟩
end Go.Proofs.Ythaifibhflfpkaa.Q
end
