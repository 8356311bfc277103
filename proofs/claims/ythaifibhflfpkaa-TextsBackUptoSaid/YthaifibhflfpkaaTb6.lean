/- A part of the claim's own texts: words, walks and plain laws. -/
import Derived.Test.YthaifibhflfpkaaTb5
import Derived.Test.YthaifibhflfpkaaTb2
import Derived.Test.YthaifibhflfpkaaTb4
import Derived.WalkMore
import Derived.Laws.Strings
namespace Go.Proofs.YthaifibhflfpkaaX
abbrev b0_ : Array Bool := #[false, false, false, false, false, false, false, false, false]
abbrev b1_ : Array Bool := #[false, false, false, false, false, false, false, false, false, false]
abbrev b2_ : Array Bool := #[true, false, false, false, false, false, false, false, false]
abbrev b3_ : Array Bool := #[true, false, false, false, false, false, false, false, false, false]
abbrev b4_ : Array Bool := #[true, true, false, false, false, false, false, false, false]
abbrev b5_ : Array Bool := #[true, true, false, false, false, false, false, false, false, false]
abbrev b6_ : Array Bool := #[true, true, false, false, false, true, false, false, false]
abbrev b7_ : Array Bool := #[true, true, false, false, false, true, true, false, false]
abbrev b8_ : Array Bool := #[true, true, true, false, false, false, false, false, false, false]
abbrev b9_ : Array Bool := #[true, true, true, false, false, true, false, false, false, false]
abbrev b10_ : Array Bool := #[true, true, true, false, false, true, true, false, false]
abbrev b11_ : Array Bool := #[true, true, true, false, false, true, true, false, false, false]
abbrev b12_ : Array Bool := #[true, true, true, false, false, true, true, true, false, false]
abbrev b13_ : Array Bool := #[true, true, true, true, false, true, true, false, false]
abbrev b14_ : Array Bool := #[true, true, true, true, false, true, true, true, false, false]
abbrev b15_ : Array Bool := #[true, true, true, true, true, true, true, false, false]
abbrev b16_ : Array Bool := #[true, true, true, true, true, true, true, true, false]
abbrev b17_ : Array Bool := #[true, true, true, true, true, true, true, true, false, false]
abbrev b18_ : Array Bool := #[true, true, true, true, true, true, true, true, true]
abbrev b19_ : Array Bool := #[true, true, true, true, true, true, true, true, true, false]
abbrev b20_ : Array Bool := #[true, true, true, true, true, true, true, true, true, true]
end Go.Proofs.YthaifibhflfpkaaX
section
namespace Go.Proofs.Ythaifibhflfpkaa.Q
open Go.RowKit Go.Proofs.YthaifibhflfpkaaW.PrintWords Go.Proofs.YthaifibhflfpkaaW.PrintLast Go.Proofs.YthaifibhflfpkaaW.PrintMore Go.Proofs.YthaifibhflfpkaaX
namespace Law
theorem high (d w : Nat) (hw : w ≤ 64) (hd : d < 2 ^ 64) : pfor_high.f (d : Int) (w : Int) = some ((d / 2 ^ w : Nat) : Int) := by
  unfold pfor_high.f
  by_cases h : w = 64
  · subst h
    rw [if_pos (by omega), Nat.div_eq_of_lt hd]
    rfl
  · rw [if_neg (by omega), if_pos (by omega), shr_nat d w hw]
theorem sizeN (d : Nat) (hd : d < 2 ^ 64) : Ev (fun k => pfor_size.f k (d : Int)) ((numB d).length : Int) := by
  unfold pfor_size.f
  exact Ev.bind (put [] d hd (by simp)) (by simpa using Ev.now ((numB d).length : Int))
theorem width_in (ds : List Nat) (w : Nat) (hw : w ≤ 64) (hl : ds.length ≤ 32) (hb : ∀ x ∈ ds, x < 2 ^ 64) (x3 x4 : Int) {R : Int} : ∀ (r : List Nat) (i n : Nat), ds.drop i = r → i ≤ ds.length → n ≤ 1000 + 10 * i →
    Ev (fun k => pfor_width.l1 k (ints ds) x3 x4 (w : Int) ((n + (tailT w i r).length : Nat) : Int) (ints ds) (ds.length : Int) (ds.length : Int)) R →
    Ev (fun k => pfor_width.l1 k (ints ds) x3 x4 (w : Int) (n : Int) (ints ds) (ds.length : Int) (i : Int)) R
  | [], i, n, hd, hi, hn, h => by
    have h1 : ds.length ≤ i := List.drop_eq_nil_iff.1 hd
    have e : i = ds.length := by omega
    subst e
    simpa [tailT] using h
  | d :: r, i, n, hd, hi, hn, h => by
    obtain ⟨hlt, hat, hr⟩ := drop_cons hd
    have hd64 : d < 2 ^ 64 := hb d (List.mem_of_getElem? hat)
    have hh : d / 2 ^ w < 2 ^ 64 := Nat.lt_of_le_of_lt (Nat.div_le_self _ _) hd64
    have hnb := numB_le (d / 2 ^ w) hh
    have HH := Lib.hid hh
    have HD := Lib.hid hd64
    clear hh hd64
    have HS := Lib.hid (w64_succ i (by omega))
    have H1 := Lib.hid (w64_nat (1 + ((numB (d / 2 ^ w)).length : Int)) (1 + (numB (d / 2 ^ w)).length) (by omega) (by omega))
    have H2 := Lib.hid (w64_nat ((n : Int) + ((1 + (numB (d / 2 ^ w)).length : Nat) : Int)) (n + (1 + (numB (d / 2 ^ w)).length)) (by omega) (by omega))
    refine Ev.step (fun k => by rw [pfor_width.l1, rd_some hat, ints_length, high d w hw HD.out, Option.bind_some]) ?_
    refine Ev.pos (Int.ofNat_lt.2 hlt) (Ev.pos (Int.natCast_nonneg i) (Ev.pos (Int.ofNat_lt.2 hlt) ?_))
    rw [HS.out]
    by_cases h0 : 0 < d / 2 ^ w
    · refine Ev.pos (Int.ofNat_lt.2 h0) (Ev.bind (sizeN _ HH.out) ?_)
      rw [H1.out, H2.out]
      refine width_in ds w hw hl hb x3 x4 r (i + 1) _ hr (by omega) (by omega) ?_
      have e : n + (1 + (numB (d / 2 ^ w)).length) + (tailT w (i + 1) r).length = n + (tailT w i (d :: r)).length := by
        rw [tailT, if_pos h0, List.length_append, List.length_cons]
        omega
      rw [e]
      exact h
    · refine Ev.neg (fun h1 => h0 (Int.ofNat_lt.1 h1)) ?_
      refine width_in ds w hw hl hb x3 x4 r (i + 1) n hr (by omega) (by omega) ?_
      have e : (tailT w (i + 1) r).length = (tailT w i (d :: r)).length := by
        rw [tailT, if_neg h0, List.nil_append]
      rw [e]
      exact h
theorem width_w (ds : List Nat) (w : Nat) (hw : w ≤ 64) (hl : ds.length ≤ 32) (hb : ∀ x ∈ ds, x < 2 ^ 64) (x3 x4 : Int) {R : Int}
    (h : Ev (fun k => if x4 < 0 then (pfor_width.l0 k (ints ds) (w : Int) (sizeT w ds : Int) ((w + 1 : Nat) : Int)) else (if (sizeT w ds : Int) < x4 then (pfor_width.l0 k (ints ds) (w : Int) (sizeT w ds : Int) ((w + 1 : Nat) : Int)) else (pfor_width.l0 k (ints ds) x3 x4 ((w + 1 : Nat) : Int)))) R) :
    Ev (fun k => pfor_width.l0 k (ints ds) x3 x4 (w : Int)) R := by
  have hp := place ds.length w 7 (by omega) hw (by omega)
  have hp1 := hp.1
  have hp2 := hp.2
  rw [show ((7 : Nat) : Int) = 7 by rfl] at hp1
  have HP := Lib.hid hp1
  clear hp hp1
  have HT := Lib.hid (tdiv8 (w * ds.length + 7) (by omega)).1
  have HS := Lib.hid (w64_succ w (by omega))
  have hm : w * ds.length ≤ 64 * 32 := Nat.mul_le_mul hw hl
  refine Ev.step (fun k => by rw [pfor_width.l0, ints_length, HP.out, HT.out]) ?_
  refine Ev.pos (by omega) ?_
  refine width_in ds w hw hl hb x3 x4 ds 0 _ rfl (by omega) (by omega) ?_
  refine Ev.step (fun k => by rw [pfor_width.l1, HS.out]) ?_
  exact Ev.neg (by omega) h
theorem width_out (ds : List Nat) (hl : ds.length ≤ 32) (hb : ∀ x ∈ ds, x < 2 ^ 64) : ∀ (f w b : Nat), w + f = 65 → Ev (fun k => pfor_width.l0 k (ints ds) (b : Int) (sizeT b ds : Int) (w : Int)) ((bestT ds f w b : Nat) : Int)
  | 0, w, b, hf => by
    refine Ev.step (fun k => by rw [pfor_width.l0]) ?_
    exact Ev.neg (by omega) (Ev.now _)
  | f + 1, w, b, hf => by
    refine width_w ds w (by omega) hl hb _ _ (Ev.neg (by omega) ?_)
    rw [bestT]
    by_cases h : sizeT w ds < sizeT b ds
    · rw [if_pos h]
      exact Ev.pos (by omega) (width_out ds hl hb f (w + 1) w (by omega))
    · rw [if_neg h]
      exact Ev.neg (by omega) (width_out ds hl hb f (w + 1) b (by omega))
theorem widthP (ds : List Nat) (hl : ds.length ≤ 32) (hb : ∀ x ∈ ds, x < 2 ^ 64) : Ev (fun k => pfor_width.f k (ints ds)) ((bestT ds 64 1 0 : Nat) : Int) := by
  unfold pfor_width.f
  exact width_w ds 0 (by omega) hl hb 0 (-1) (Ev.pos (by omega) (width_out ds hl hb 64 1 0 (by omega)))
theorem min_loop (a : List Nat) (hl : a.length < 1000000) : ∀ (r : List Nat) (i m : Nat), a.drop i = r → i ≤ a.length → Ev (fun k => slices_Min_uint64_uint64.l0 k (ints a) (m : Int) (i : Int)) ((minT r m : Nat) : Int)
  | [], i, m, hd, hi => by
    have : a.length ≤ i := List.drop_eq_nil_iff.1 hd
    refine Ev.step (fun k => by rw [slices_Min_uint64_uint64.l0, ints_length]) ?_
    exact Ev.neg (by omega) (Ev.now _)
  | x :: r, i, m, hd, hi => by
    obtain ⟨hlt, hat, hr⟩ := drop_cons hd
    have ih := min_loop a hl r (i + 1) (min m x) hr (by omega)
    have e2 : mn (m : Int) (x : Int) = ((min m x : Nat) : Int) := by unfold mn; split <;> omega
    have HS := Lib.hid (w64_succ i (by omega))
    refine Ev.step (fun k => by rw [slices_Min_uint64_uint64.l0, ints_length, rd_some hat, e2, HS.out]) ?_
    exact Ev.pos (by omega) (Ev.pos (by omega) ih)
theorem minP (a : List Nat) (h0 : 0 < a.length) (hl : a.length < 1000000) : Ev (fun k => slices_Min_uint64_uint64.f k (ints a)) ((baseT a : Nat) : Int) := by
  unfold slices_Min_uint64_uint64.f
  rw [ints_length]
  refine Ev.neg (by omega) (Ev.pos (by omega) ?_)
  cases a with
  | nil => simp at h0
  | cons x r =>
    have e : baseT (x :: r) = minT r x := by
      unfold baseT
      rw [minT]
      simp
    rw [e]
    exact min_loop (x :: r) hl r 1 x rfl (by simp)
theorem set_next (p : List Nat) (m : Nat) (v : Int) (w : Nat) (hv : v = (w : Int)) : (ints p ++ List.replicate (m + 1) 0).set p.length v = ints (p ++ [w]) ++ List.replicate m 0 := by
  subst hv
  rw [List.set_append_right _ _ (by rw [ints_length]; omega), ints_length, Nat.sub_self, List.replicate_succ, List.set_cons_zero, ints_snoc]
  simp
theorem less_loop (a : List Nat) (hl : a.length ≤ 32) (hb : ∀ x ∈ a, x < 2 ^ 64) (x0 : List Int) {R : List Int × Int}
    (h : Ev (fun k => (pfor_width.f k (ints (lessT a))).bind fun t => pfor_PutBlock.l1 k x0 (ints a) ((baseT a : Nat) : Int) t [] 0 (List.replicate a.length 0) (ints (lessT a)) (a.length : Int) 0) R) :
    ∀ (r p : List Nat), p ++ r = lessT a → Ev (fun k => pfor_PutBlock.l0 k x0 (ints a) ((baseT a : Nat) : Int) (ints p ++ List.replicate r.length 0) (ints a) (a.length : Int) (p.length : Int)) R
  | [], p, hp => by
    rw [List.append_nil] at hp
    subst hp
    have hln := lessT_length a
    refine Ev.step (fun k => by rw [pfor_PutBlock.l0, ints_length]) ?_
    refine Ev.neg (by omega) ?_
    rw [List.length_nil, List.replicate_zero, List.append_nil, ints_length, hln]
    refine Ev.congr (fun k => ?_) h
    congr 1
    funext t
    rw [if_pos (by omega), if_pos (by omega), Int.toNat_natCast]
  | d :: r, p, hp => by
    have hln := lessT_length a
    have hlt : p.length < a.length := by rw [← hln, ← hp]; simp
    have hat : (lessT a)[p.length]? = some d := by rw [← hp]; simp
    obtain ⟨x, hx, hdx⟩ := less_at hat
    have hu := usub x (baseT a) (base_le hx) (hb x (List.mem_of_getElem? hx))
    rw [← hdx] at hu
    have ih := less_loop a hl hb x0 h r (p ++ [d]) (by rw [← hp]; simp)
    rw [show ((p ++ [d]).length : Int) = ((p.length + 1 : Nat) : Int) by simp] at ih
    have HU := Lib.hid hu
    clear hu
    have HS := Lib.hid (w64_succ p.length (by omega))
    refine Ev.step (fun k => by rw [pfor_PutBlock.l0, ints_length, rd_some hx, HU.out, HS.out, Int.toNat_natCast, List.length_cons, set_next p _ _ d rfl]) ?_
    refine Ev.pos (by omega) (Ev.pos (by omega) (Ev.pos (by omega) (Ev.pos ?_ ih)))
    rw [List.length_append, ints_length, List.length_replicate]
    omega
theorem concat3 (A B C : List Int) (h : A.length + B.length + C.length < 140737488355300) : Ev (fun k => slices_Concat_byte_byte.f k [A, B, C]) (A ++ B ++ C) := by
  unfold slices_Concat_byte_byte.f
  have w1 := Lib.hid (w64_nat (0 + (A.length : Int)) A.length (by omega) (by omega))
  have w2 := Lib.hid (w64_nat ((A.length : Int) + (B.length : Int)) (A.length + B.length) (by omega) (by omega))
  have w3 := Lib.hid (w64_nat (((A.length + B.length : Nat) : Int) + (C.length : Int)) (A.length + B.length + C.length) (by omega) (by omega))
  have s1 : wrap64 (0 + 1) = 1 := by unfold wrap64; decide
  have s2 : wrap64 (1 + 1) = 2 := by unfold wrap64; decide
  have s3 : wrap64 (2 + 1) = 3 := by unfold wrap64; decide
  have e0 : rd_L1 [A, B, C] 0 = A := rfl
  have e1 : rd_L1 [A, B, C] 1 = B := rfl
  have e2 : rd_L1 [A, B, C] 2 = C := rfl
  have el : (([A, B, C] : List (List Int)).length : Int) = 3 := rfl
  have S1 := Lib.hid s1
  have S2 := Lib.hid s2
  have S3 := Lib.hid s3
  clear s1 s2 s3
  rw [el]
  refine Ev.step (fun k => by rw [slices_Concat_byte_byte.l0, e0, w1.out, S1.out, el]) ?_
  refine Ev.pos (by decide) (Ev.pos (by decide) (Ev.pos (by decide) (Ev.neg (by omega) ?_)))
  refine Ev.step (fun k => by rw [slices_Concat_byte_byte.l0, e1, w2.out, S2.out, el]) ?_
  refine Ev.pos (by decide) (Ev.pos (by decide) (Ev.pos (by decide) (Ev.neg (by omega) ?_)))
  refine Ev.step (fun k => by rw [slices_Concat_byte_byte.l0, e2, w3.out, S3.out, el]) ?_
  refine Ev.pos (by decide) (Ev.pos (by decide) (Ev.pos (by decide) (Ev.neg (by omega) ?_)))
  refine Ev.step (fun k => by rw [slices_Concat_byte_byte.l0]) ?_
  refine Ev.neg (by decide) (Ev.get (a := []) (if_pos (by simp; omega)) ?_)
  rw [el]
  refine Ev.step (fun k => by rw [slices_Concat_byte_byte.l1, e0, S1.out, el]) ?_
  refine Ev.pos (by decide) (Ev.pos (by decide) (Ev.pos (by decide) (Ev.pos (by simp; omega) ?_)))
  refine Ev.step (fun k => by rw [slices_Concat_byte_byte.l1, e1, S2.out, el]) ?_
  refine Ev.pos (by decide) (Ev.pos (by decide) (Ev.pos (by decide) (Ev.pos (by simp; omega) ?_)))
  refine Ev.step (fun k => by rw [slices_Concat_byte_byte.l1, e2, S3.out, el]) ?_
  refine Ev.pos (by decide) (Ev.pos (by decide) (Ev.pos (by decide) (Ev.pos (by simp; omega) ?_)))
  refine Ev.step (fun k => by rw [slices_Concat_byte_byte.l1]) ?_
  refine Ev.neg (by decide) ?_
  simpa using Ev.now (A ++ (B ++ C))
theorem block_end (a : List Nat) (w : Nat) (hw : w ≤ 64) (h0 : 0 < a.length) (hl : a.length ≤ 32) (hb : ∀ x ∈ a, x < 2 ^ 64) (x0 : List Int) (hx0 : x0.length < 140737488352500) :
    Ev (fun k => pfor_PutBlock.l1 k x0 (ints a) ((baseT a : Nat) : Int) (w : Int) (tailT w 0 (lessT a)) ((cntT w (lessT a) : Nat) : Int) (ints (lowT w (lessT a))) (ints (lessT a)) (a.length : Int) (a.length : Int)) (x0 ++ byT a w, 0) := by
  have hbase : baseT a < 2 ^ 64 := by
    have h1 := (minT_le a (a.getD 0 0)).2 a[0] (List.getElem_mem h0)
    have h2 := hb a[0] (List.getElem_mem h0)
    unfold baseT
    omega
  have hpk := pack03 w hw (lowT w (lessT a)) (by simp [lowT, lessT]; omega) (lowT_lt w _)
  have hlow : (lowT w (lessT a)).length = a.length := by simp [lowT, lessT]
  rw [hlow] at hpk
  have hn := numB_le (baseT a) hbase
  have ht := tailT_le w (lessT a) 0 (lessT_lt a hb)
  rw [lessT_length] at ht
  have hcnt : cntT w (lessT a) ≤ a.length := by
    have := List.length_filter_le (fun d => decide (0 < d / 2 ^ w)) (lessT a)
    rw [lessT_length] at this
    exact this
  have hsz : (w * a.length + 7) / 8 ≤ 1000 := by
    have : w * a.length ≤ 64 * 32 := Nat.mul_le_mul hw hl
    omega
  have e1 : ((a.length : Int)) % 256 = (a.length : Int) := by omega
  have e2 : (w : Int) % 256 = (w : Int) := by omega
  have e3 : ((cntT w (lessT a) : Nat) : Int) % 256 = ((cntT w (lessT a) : Nat) : Int) := by omega
  have HB := Lib.hid hbase
  clear hbase
  refine Ev.step (fun k => by rw [pfor_PutBlock.l1, ints_length a, e1, e2, e3]) ?_
  refine Ev.neg (by omega) (Ev.bind hpk (Ev.pos rfl (Ev.get (a := x0) (if_pos (by omega)) (Ev.pos (by omega) (Ev.bind (put (x0 ++ [(a.length : Int)]) (baseT a) HB.out (by simp; omega)) (Ev.get rfl (Ev.pos (by simp; omega) ?_)))))))
  refine Ev.bind (concat3 _ _ _ ?_) ?_
  · simp [le_length]
    omega
  · have e : x0 ++ byT a w = x0 ++ [(a.length : Int)] ++ numB (baseT a) ++ [(w : Int), ((cntT w (lessT a) : Nat) : Int)] ++ le (sumw w (lowT w (lessT a))) ((w * a.length + 7) / 8) ++ tailT w 0 (lessT a) := by
      unfold byT
      simp
    rw [e]
    exact Ev.now _
theorem block_loop (a : List Nat) (w : Nat) (hw : w ≤ 64) (hl : a.length ≤ 32) (hb : ∀ x ∈ a, x < 2 ^ 64) (x0 : List Int) {R : List Int × Int}
    (h : Ev (fun k => pfor_PutBlock.l1 k x0 (ints a) ((baseT a : Nat) : Int) (w : Int) (tailT w 0 (lessT a)) ((cntT w (lessT a) : Nat) : Int) (ints (lowT w (lessT a))) (ints (lessT a)) (a.length : Int) (a.length : Int)) R) :
    ∀ (r p : List Nat) (T : List Int) (c : Nat), p ++ r = lessT a → T ++ tailT w p.length r = tailT w 0 (lessT a) → c + cntT w r = cntT w (lessT a) → T.length ≤ 10 * p.length → c ≤ p.length →
    Ev (fun k => pfor_PutBlock.l1 k x0 (ints a) ((baseT a : Nat) : Int) (w : Int) T (c : Int) (ints (lowT w p) ++ List.replicate r.length 0) (ints (lessT a)) (a.length : Int) (p.length : Int)) R
  | [], p, T, c, hp, hT, hc, _, _ => by
    rw [List.append_nil] at hp
    subst hp
    rw [tailT, List.append_nil] at hT
    have e : c = cntT w (lessT a) := by simpa [cntT] using hc
    subst e
    subst hT
    rw [List.length_nil, List.replicate_zero, List.append_nil, lessT_length]
    exact h
  | d :: r, p, T, c, hp, hT, hc, hTl, hcl => by
    have hln := lessT_length a
    have hlt : p.length < a.length := by rw [← hln, ← hp]; simp
    have hat : (lessT a)[p.length]? = some d := by rw [← hp]; simp
    have hd64 : d < 2 ^ 64 := lessT_lt a hb d (List.mem_of_getElem? hat)
    have hh : d / 2 ^ w < 2 ^ 64 := Nat.lt_of_le_of_lt (Nat.div_le_self _ _) hd64
    have hnb := numB_le (d / 2 ^ w) hh
    have HD := Lib.hid hd64
    have HH := Lib.hid hh
    clear hd64 hh
    have HS := Lib.hid (w64_succ p.length (by omega))
    have HC := Lib.hid (w64_succ c (by omega))
    have hlen : (ints (lowT w p) ++ List.replicate (r.length + 1) 0).length = a.length := by
      rw [List.length_append, ints_length, List.length_replicate]
      have : (p ++ d :: r).length = a.length := by rw [hp, hln]
      simp at this
      simp [lowT]
      omega
    have hset : ∀ v : Int, (ints (lowT w p) ++ List.replicate (r.length + 1) 0).set p.length v = (ints (lowT w p) ++ List.replicate (r.length + 1) 0).set (lowT w p).length v := by
      intro v
      simp [lowT]
    have hp256 : (p.length : Int) % 256 = (p.length : Int) := by omega
    refine Ev.step (fun k => by rw [pfor_PutBlock.l1, ints_length, rd_some hat, high d w hw HD.out, Option.bind_some, HS.out, HC.out, Int.toNat_natCast, List.length_cons, hlen]) ?_
    refine Ev.pos (by omega) (Ev.pos (by omega) (Ev.pos (by omega) (Ev.pos (by omega) (Ev.get rfl ?_))))
    have e1 : lowT w p ++ [d % 2 ^ w] = lowT w (p ++ [d]) := by simp [lowT]
    by_cases h0 : 0 < d / 2 ^ w
    · have hw64 : w < 64 := by
        rcases Nat.lt_or_ge w 64 with h1 | h1
        · exact h1
        · have : w = 64 := by omega
          subst this
          rw [Nat.div_eq_of_lt HD.out] at h0
          exact absurd h0 (by decide)
      refine Ev.pos (Int.ofNat_lt.2 h0) (Ev.pos (Int.natCast_nonneg w) (Ev.pos (by omega) (Ev.bind (put (T ++ [(p.length : Int) % 256]) _ HH.out (by simp; omega)) ?_)))
      rw [shl_nat (d / 2 ^ w) w (by omega) (Nat.lt_of_le_of_lt (Nat.div_mul_le_self d (2 ^ w)) HD.out), clear_high d w HD.out, List.set_set, hset, set_next (lowT w p) _ _ (d % 2 ^ w) rfl, e1]
      have ih := block_loop a w hw hl hb x0 h r (p ++ [d]) (T ++ [(p.length : Int) % 256] ++ numB (d / 2 ^ w)) (c + 1) (by rw [← hp]; simp) (by rw [← hT, tailT, if_pos h0]; simp) (by rw [← hc, cntT_pos r h0]; omega) (by simp; omega) (by simp; omega)
      rw [show ((p ++ [d]).length : Int) = ((p.length + 1 : Nat) : Int) by simp] at ih
      exact ih
    · refine Ev.neg (fun h1 => h0 (Int.ofNat_lt.1 h1)) ?_
      have hdl : d % 2 ^ w = d := by
        rcases Nat.div_eq_zero_iff.1 (Nat.eq_zero_of_not_pos h0) with h1 | h1
        · exact absurd h1 (Nat.ne_of_gt (Nat.two_pow_pos w))
        · exact Nat.mod_eq_of_lt h1
      rw [hset, set_next (lowT w p) _ _ (d % 2 ^ w) (by rw [hdl]), e1]
      have ih := block_loop a w hw hl hb x0 h r (p ++ [d]) T c (by rw [← hp]; simp) (by rw [← hT, tailT, if_neg h0]; simp) (by rw [← hc, cntT_neg r h0]) (by simp; omega) (by simp; omega)
      rw [show ((p ++ [d]).length : Int) = ((p.length + 1 : Nat) : Int) by simp] at ih
      exact ih
theorem bestT_le (ds : List Nat) : ∀ f w b, w + f ≤ 65 → b ≤ 64 → bestT ds f w b ≤ 64
  | 0, _, _, _, h => h
  | f + 1, w, b, h1, h2 => by
    rw [bestT]
    split
    · exact bestT_le ds f _ _ (by omega) (by omega)
    · exact bestT_le ds f _ _ (by omega) h2
theorem putBlock (a : List Nat) (h0 : 0 < a.length) (hl : a.length ≤ 32) (hb : ∀ x ∈ a, x < 2 ^ 64) (x0 : List Int) (hx0 : x0.length < 140737488352500) : Ev (fun k => pfor_PutBlock.f k x0 (ints a)) (x0 ++ blockT a, 0) := by
  unfold pfor_PutBlock.f
  rw [ints_length]
  refine Ev.neg (by omega) ?_
  rw [decide_eq_false (by omega)]
  refine Ev.step (fun k => by rw [pfor_PutBlock.j0, ints_length]) ?_
  refine Ev.neg (by decide) (Ev.bind (minP a h0 (by omega)) (Ev.pos (by omega) (Ev.pos (by omega) ?_)))
  rw [Int.toNat_natCast]
  have hw := bestT_le (lessT a) 64 1 0 (by omega) (by omega)
  have h1 := block_loop a _ hw hl hb x0 (block_end a _ hw h0 hl hb x0 hx0) (lessT a) [] [] 0 rfl rfl (by omega) (by simp) (by omega)
  have h2 := less_loop a hl hb x0 (R := (x0 ++ blockT a, 0)) (Ev.bind (widthP (lessT a) (by rw [lessT_length]; exact hl) (lessT_lt a hb)) (by rw [lessT_length] at h1; exact h1)) (lessT a) [] rfl
  rw [lessT_length] at h2
  exact h2
theorem putList (a : List Nat) (h0 : 0 < a.length) (hl : a.length ≤ 32) (hb : ∀ x ∈ a, x < 2 ^ 64) (x0 : List Int) (hx0 : x0.length < 140737488352000) : Ev (fun k => pfor_PutList.f k x0 (ints a)) (x0 ++ (numB a.length ++ blockT a)) := by
  unfold pfor_PutList.f
  rw [ints_length]
  have hn := numB_le a.length (by omega)
  refine Ev.pos (by omega) (Ev.bind (put x0 a.length (by omega) (by omega)) (Ev.bind (putBlock a h0 hl hb _ (by simp; omega)) ?_))
  simpa using Ev.now (x0 ++ (numB a.length ++ blockT a))
end Law
end Go.Proofs.Ythaifibhflfpkaa.Q
end
section
namespace Go.Proofs.Ythaifibhflfpkaa.Q
open Go.RowKit Go.Proofs.YthaifibhflfpkaaW.PrintWords Go.Proofs.YthaifibhflfpkaaW.PrintLast Go.Proofs.YthaifibhflfpkaaW.PrintMore Go.Proofs.YthaifibhflfpkaaX
attribute [local go_sem] max2_int min2_int max_two min_two max_three min_three max_four min_four   -- for this text's walks alone
set_option linter.unusedVariables false
set_option linter.unusedSimpArgs false
def sym_Formed.key (s : ByteArray) : List UInt8 := s.data.toList
def sym_Formed.ok (l : List ByteArray) : Prop := (∀ s ∈ l, 2 ≤ s.size ∧ s.size ≤ 8) ∧ (l.map sym_Formed.key).Nodup
instance (l : List ByteArray) : Decidable (sym_Formed.ok l) := by unfold sym_Formed.ok; exact inferInstance
def sym_Formed.f (l0 : List ByteArray) : Option Bool := some (decide (l0.length ≤ 32) && decide (sym_Formed.ok l0))
theorem sym_Formed.ok_next (l : List ByteArray) (i : Nat) (s : ByteArray) (hs : l[i]? = some s) : sym_Formed.ok (l.take (i + 1)) ↔ sym_Formed.ok (l.take i) ∧ (2 ≤ s.size ∧ s.size ≤ 8) ∧ sym_Formed.key s ∉ (l.take i).map sym_Formed.key := by
 unfold sym_Formed.ok
 rw [List.take_add_one, hs]
 simp only [Option.toList_some, List.mem_append, List.mem_singleton, List.map_append, List.map_cons, List.map_nil, List.nodup_append]
 constructor
 ·
  rintro ⟨h1, h2, _, h3⟩
  exact ⟨⟨fun x hx => h1 x (.inl hx), h2⟩, h1 s (.inr rfl), fun hm => h3 _ hm _ (by simp) rfl⟩
 ·
  rintro ⟨⟨h1, h2⟩, h3, h4⟩
  refine ⟨fun x hx => hx.elim (h1 x) (fun e => e ▸ h3), h2, by simp, ?_⟩
  intro a ha b hb e
  subst hb
  subst e
  exact h4 ha
theorem sym_Formed.ok_take {l : List ByteArray} (h : sym_Formed.ok l) (i : Nat) : sym_Formed.ok (l.take i) :=
 ⟨fun s hs => h.1 s (List.mem_of_mem_take hs), h.2.sublist ((List.take_sublist i l).map _)⟩
def sym_Formed.g (l : List ByteArray) (i : Nat) : List UInt8 → Option Bool := fun y => if y ∈ (l.take i).map sym_Formed.key then some true else none
theorem sym_Formed.g_next (l : List ByteArray) (i : Nat) (s : ByteArray) (hs : l[i]? = some s) : upd (sym_Formed.g l i) (sym_Formed.key s) true = sym_Formed.g l (i + 1) := by
 funext y
 unfold upd sym_Formed.g
 rw [List.take_add_one, hs]
 simp only [Option.toList_some, List.map_append, List.map_cons, List.map_nil, List.mem_append, List.mem_singleton]
 by_cases h : y = sym_Formed.key s
 · simp [h]
 · simp [h]
set_option maxHeartbeats 8000000 in
set_option maxRecDepth 100000 in
theorem sym_Formed.calls (A0 : Option Addr) (c0 : Nat) (l0 : List ByteArray) (r : Bool) (w : World) (hr0 : Kd.C Kd.string w A0 l0.length l0) (hc0 : l0.length ≤ c0) (h : sym_Formed.f l0 = some r) :
  Calls Try.prog 46 #[.slice A0 l0.length c0] w fun e w' => e = .returned (.bool r) ∧ Below w.heap.size w w' := by
 have HR0 := aM hr0
 have HC0 := aM hc0
 clear hr0 hc0
 have HB := aM (Below.refl w.heap.size w)
 have HRV := aM (Option.some.inj h)
 clear h
 have ht : Try.prog.underlying 100 = some (.map 9 4) := by kernel_rfl
 have he : Try.prog.underlying 4 = some .bool := by kernel_rfl
 have hs9 : Try.prog.underlying 9 = some .string := by kernel_rfl
 have HT := aM ht
 have HE := aM he
 have HS := aM hs9
 clear ht he hs9
 have HZ : Aside0 (∀ w : World, (zeroValue 4).run Try.prog w = .ok (.bool false) w) := ⟨fun w => by kernel_rfl⟩
 by_cases c1 : (l0.length : Int) > 32
 ·
  have c1b : decide (32 < (l0.length : Int)) = true := decide_eq_true c1
  have c1c : decide (32 < l0.length) = true := decide_eq_true (by omega)
  have hz : r = false := by
   rw [← HRV.out]
   have : ¬ l0.length ≤ 32 := by omega
   simp [this]
  have HZ1 := aM hz
  clear c1 hz
  go_enter Try.func46, Try.ntmps46
  go_wp2
  go_ret
  obtain rfl := HZ1.out
  exact ⟨rfl, HB.out⟩
 ·
  have c1b : decide (32 < (l0.length : Int)) = false := decide_eq_false c1
  have c1c : decide (32 < l0.length) = false := decide_eq_false (by omega)
  have HL : Aside0 (l0.length ≤ 32) := ⟨by omega⟩
  clear c1
  have hmm := @run_makeMap Try.prog
  go_enter Try.func46, Try.ntmps46
  go_wp2
  go_loopg [12] l0.length (fun kq v12 w' => ∃ (i : Int), v12 = .int .i64 i ∧ Aside0 (0 ≤ i ∧ (kq : Int) + i = l0.length) ∧ Aside0 (MapF Try.prog 9 4 Lit.string Lit.bool w' w.heap.size i.toNat (sym_Formed.g l0 i.toNat)) ∧ Aside0 (sym_Formed.ok (l0.take i.toNat)) ∧ Aside0 (Below w.heap.size w w'))
  case atStart => exact ⟨0, rfl, ⟨by omega, by omega⟩, ⟨MapF.made _ _ _ _ _ _⟩, ⟨by unfold sym_Formed.ok; simp⟩, ⟨below_alloc (Below.refl _ _) _⟩⟩
  case round =>
   clear HB
   obtain ⟨i, rfl, HI, HM, HOK, HB⟩ := hrel
   cases gk with
   | zero =>
    have hi : i = l0.length := by have := HI.out; omega
    have c2b : decide (i < (l0.length : Int)) = false := decide_eq_false (by omega)
    have hz : r = true := by
     rw [← HRV.out]
     have h1 := HL.out
     have h2 := HOK.out
     rw [hi, Int.toNat_natCast, List.take_length] at h2
     simp [h1, h2]
    have HZ1 := aM hz
    clear hi hz
    go_wp2
    go_ret
    obtain rfl := HZ1.out
    exact ⟨rfl, HB.out⟩
   | succ k1 =>
    have c2b : decide (i < (l0.length : Int)) = true := decide_eq_true (by have := HI.out; omega)
    have p1 : 0 ≤ i := HI.out.1
    have q1 : i < (l0.length : Int) := by have := HI.out; omega
    obtain ⟨ad, rfl, hx⟩ := Kd.at_string (Kd.C_below HR0.out HB.out) i p1 q1
    have hg : l0[i.toNat]? = some (rdOf ByteArray.empty l0 i) := by
     unfold rdOf
     rw [List.getD_eq_getElem?_getD, List.getElem?_eq_getElem (by omega)]
     rfl
    obtain ⟨s, hs⟩ : ∃ s, s = rdOf ByteArray.empty l0 i := ⟨_, rfl⟩
    rw [← hs] at hx hg
    clear hs
    have HG := aM hg
    clear hg
    replace p1 := eq_true p1
    replace q1 := eq_true q1
    by_cases d1 : (s.size : Int) < 2
    ·
     have d1b : decide ((s.size : Int) < 2) = true := decide_eq_true d1
     have d1c : decide (s.size < 2) = true := decide_eq_true (by omega)
     have hz : r = false := by
      rw [← HRV.out]
      have : ¬ sym_Formed.ok l0 := fun h => by have := (h.1 s (List.mem_of_getElem? HG.out)).1; omega
      simp [this]
     have HZ1 := aM hz
     clear d1 hz
     go_wp2
     go_ret
     obtain rfl := HZ1.out
     exact ⟨rfl, HB.out⟩
    ·
     have d1b : decide ((s.size : Int) < 2) = false := decide_eq_false d1
     have d1c : decide (s.size < 2) = false := decide_eq_false (by omega)
     by_cases d2 : (s.size : Int) > 8
     ·
      have d2b : decide (8 < (s.size : Int)) = true := decide_eq_true d2
      have d2c : decide (8 < s.size) = true := decide_eq_true (by omega)
      have hz : r = false := by
       rw [← HRV.out]
       have : ¬ sym_Formed.ok l0 := fun h => by have := (h.1 s (List.mem_of_getElem? HG.out)).2; omega
       simp [this]
      have HZ1 := aM hz
      clear d1 d2 hz
      go_wp2
      go_ret
      obtain rfl := HZ1.out
      exact ⟨rfl, HB.out⟩
     ·
      have d2b : decide (8 < (s.size : Int)) = false := decide_eq_false d2
      have d2c : decide (8 < s.size) = false := decide_eq_false (by omega)
      have hkey : keyOf Try.prog 9 (.string s) = some (.string s.data.toList) := Go.WideMaps.keyOf_string_mk HS.out (by unfold maxLen; omega)
      have HK := aM hkey
      clear hkey
      have hlk := HM.out.look_bool (Maps.string_keyed HS.out) HT.out HE.out (HZ.out _) (sym_Formed.key s) HK.out
      by_cases d3 : sym_Formed.key s ∈ (l0.take i.toNat).map sym_Formed.key
      ·
       have hgt : (sym_Formed.g l0 i.toNat (sym_Formed.key s)).getD false = true := by unfold sym_Formed.g; rw [if_pos d3]; rfl
       rw [hgt] at hlk
       have hz : r = false := by
        rw [← HRV.out]
        have : ¬ sym_Formed.ok l0 := fun h => ((sym_Formed.ok_next l0 i.toNat s HG.out).1 (sym_Formed.ok_take h _)).2.2 d3
        simp [this]
       have HZ1 := aM hz
       clear d1 d2 d3 hz hgt
       go_wp2
       go_ret
       obtain rfl := HZ1.out
       exact ⟨rfl, HB.out⟩
      ·
       have hgt : (sym_Formed.g l0 i.toNat (sym_Formed.key s)).getD false = false := by unfold sym_Formed.g; rw [if_neg d3]; rfl
       rw [hgt] at hlk
       have HN : Aside0 (sym_Formed.ok (l0.take (i.toNat + 1))) := ⟨(sym_Formed.ok_next l0 i.toNat s HG.out).2 ⟨HOK.out, ⟨by omega, by omega⟩, d3⟩⟩
       clear d1 d2 d3 hgt
       go_wp2_with (first | (at_mapUpdate; refine map_store rfl _ _ _ 100 rfl (Maps.string_keyed HS.out) HT.out rfl HM.out (by have := HI.out; have := HL.out; unfold maxLen; omega) (fun x y h => by injection h) _ _ (sym_Formed.key s) true rfl rfl HK.out (plainElem_bool HE.out true) ?_; intro w1 hm1 hg1; have HM1 := aM hm1; have HB1 := aM (below_mapped HB.out hg1 (Nat.le_refl _) (below_size HB.out)); clear hm1 hg1))
       go_roundg k1
       case measure => omega
       case rel =>
        have hi := HI.out
        have hl := HL.out
        have hw : wrap64 (i + 1) = i + 1 := by unfold wrap64; omega
        have hn : (i + 1).toNat = i.toNat + 1 := by omega
        have hm2 := HM1.out
        rw [sym_Formed.g_next l0 i.toNat s HG.out, ← hn] at hm2
        have hn2 := HN.out
        rw [← hn] at hn2
        exact ⟨i + 1, (by rw [hw]), ⟨by omega, by omega⟩, ⟨hm2⟩, ⟨hn2⟩, ⟨HB1.out⟩⟩
def sym_PutTable.l0 : Nat → List Int → List ByteArray → Int → Int → Option (List Int × Int)
 | 0, _, _, _, _ => none
 | k + 1, x6, x17, x18, x19 => if x19 < x18 then (if 0 ≤ x19 then (if x19 < (x17.length : Int) then ((strBytes.f (rdOf ByteArray.empty x17 x19)).bind fun t151 => ((num_PutRow.f k x6 t151).bind fun t154 => (sym_PutTable.l0 k t154 x17 x18 (wrap64 (x19 + 1))))) else (none)) else (none)) else (some (x6, 0))
def sym_PutTable.f (k : Nat) (l0 : List Int) (l1 : List ByteArray) : Option (List Int × Int) := (sym_Formed.f l1).bind fun t146 => (if t146 = true then ((num_Put.f k l0 (IntKind.u64.wrap ((l1.length : Int)))).bind fun t147 => (sym_PutTable.l0 k t147 l1 (l1.length : Int) 0)) else (some (([] : List Int), 1)))
set_option maxHeartbeats 8000000 in
set_option maxRecDepth 100000 in
theorem sym_PutTable.calls (k : Nat) (A0 : Option Addr) (c0 : Nat) (l0 : List Int) (A1 : Option Addr) (c1 : Nat) (l1 : List ByteArray) (r1 : List Int) (r2 : Int) (w : World) (hr0 : Kd.C (Kd.int .u8) w A0 l0.length l0) (hc0 : l0.length ≤ c0) (hr1 : Kd.C Kd.string w A1 l1.length l1) (hc1 : l1.length ≤ c1) (h : sym_PutTable.f k l0 l1 = some (r1, r2)) :
  Calls Try.prog 19 #[.slice A0 l0.length c0, .slice A1 l1.length c1] w fun e w' => ∃ v0_ : Value, e = .returned (.tuple #[v0_, .int .i64 r2]) ∧ Kd.R (Kd.int .u8) 5 w' w.heap.size (fun _ => True) v0_ r1 ∧ Below w.heap.size w w' := by
 have HR0 := aM hr0
 have HC0 := aM hc0
 clear hr0 hc0
 have HR1 := aM hr1
 have HC1 := aM hc1
 clear hr1 hc1
 have HB := aM (Below.refl w.heap.size w)
 have H : ((sym_Formed.f l1).bind fun t146 => (if t146 = true then ((num_Put.f k l0 (IntKind.u64.wrap ((l1.length : Int)))).bind fun t147 => (sym_PutTable.l0 k t147 l1 (l1.length : Int) 0)) else (some (([] : List Int), 1)))) = some (r1, r2) := h
 clear h
 replace H := Option.bind_eq_some_iff.mp H
 obtain ⟨t146, A30, H⟩ := H
 replace H : (if t146 = true then ((num_Put.f k l0 (IntKind.u64.wrap ((l1.length : Int)))).bind fun t147 => (sym_PutTable.l0 k t147 l1 (l1.length : Int) 0)) else (some (([] : List Int), 1))) = some (r1, r2) := H
 have A3 := aM A30
 clear A30
 by_cases c4 : t146 = true
 ·
  subst c4
  have H1 : ((num_Put.f k l0 (IntKind.u64.wrap ((l1.length : Int)))).bind fun t147 => (sym_PutTable.l0 k t147 l1 (l1.length : Int) 0)) = some (r1, r2) := by rw [if_pos rfl] at H; exact H
  clear H
  have H := H1
  clear H1
  replace H := Option.bind_eq_some_iff.mp H
  obtain ⟨t147, A50, H⟩ := H
  replace H : (sym_PutTable.l0 k t147 l1 (l1.length : Int) 0) = some (r1, r2) := H
  have A5 := aM A50
  clear A50
  have H' := aM H
  clear H
  go_enter Try.func19, Try.ntmps19
  go_wp2_with (first | ((with_reducible refine gate_callee (f := 46) rfl ?_); refine goesL_ (some 10) rfl rfl Try.func46 (by kernel_rfl) rfl #[.slice A1 l1.length c1] rfl (by (try simp only [List.map_toArray, List.map_cons, List.map_nil]); first | done | rfl | (simp only [List.length_drop, List.length_take]; rfl)) ?_; (with_reducible refine (sym_Formed.calls _ _ l1 true _ ?side1 ?side2 A3.out).mono ?_); (case side1 => exact xC HR1.out); (case side2 => exact HC1.out); rintro e w6 ⟨rfl, hb⟩; refine ⟨_, rfl, ?_⟩; have n0_ := aM (below_step (xB HB.out) hb); clear HB; have HB := n0_; clear n0_; (try clear hb); (try clear hb2); (try clear hk); (try clear hi)) | ((with_reducible refine gate_callee (f := 47) rfl ?_); refine goesL_ (some 16) rfl rfl Try.func47 (by kernel_rfl) rfl #[.slice A0 l0.length c0, .int .u64 (IntKind.u64.wrap ((l1.length : Int)))] rfl (by (try simp only [List.map_toArray, List.map_cons, List.map_nil]); first | done | rfl | (simp only [List.length_drop, List.length_take]; rfl)) ?_; (with_reducible refine (num_Put.calls k _ _ l0 (IntKind.u64.wrap ((l1.length : Int))) t147 _ ?side1 ?side2 A5.out).mono ?_); (case side1 => exact xC (Kd.C_below HR0.out HB.out)); (case side2 => exact HC0.out); rintro e w7 ⟨v148, rfl, ho0, hb⟩; refine ⟨_, rfl, ?_⟩; have n0_ := aM (Kd.R_lower ho0 (below_size (xB HB.out))); have n1_ := aM (below_step (xB HB.out) hb); clear HB; have HO149 := n0_; have HB := n1_; clear n0_ n1_; (try clear hb); (try clear hb2); (try clear hk); (try clear hi); (try clear ho0)))
  go_loopg [6, 19] k (fun kq v6 v19 w' => ∃ (x6_1 : List Int) (x19_1 : Int), v19 = .int .i64 x19_1 ∧ Aside0 (sym_PutTable.l0 kq x6_1 l1 (l1.length : Int) x19_1 = some (r1, r2)) ∧ Aside0 (kq ≤ k) ∧ Aside0 (Kd.R (Kd.int .u8) 5 w' w.heap.size (fun _ => True) v6 x6_1) ∧ Aside0 (Below w.heap.size w w'))
  case atStart => exact ⟨(t147), (0), (by first | rfl | (simp; done) | (simp [*]; done)), H', ⟨Nat.le_refl _⟩, ⟨by (with_reducible repeat (first | apply Kd.R_alloc | apply Kd.R_drewN | apply Kd.R_drew)); exact HO149.out⟩, ⟨xB HB.out⟩⟩
  case round =>
   clear H'
   try clear c1
   try clear p2
   try clear c4
   obtain ⟨x6_1, x19_1, rfl, HA, HK1, HO_6, HB⟩ := hrel
   cases gk with
   | zero => exact absurd HA.out (by simp [sym_PutTable.l0])
   | succ k1 =>
    have H := HA.out
    clear HA
    simp only [sym_PutTable.l0] at H
    by_cases c8 : x19_1 < (l1.length : Int)
    ·
     rw [if_pos c8] at H
     have c8b0 : decide (x19_1 < (l1.length : Int)) = true := decide_eq_true c8
     clear c8
     by_cases c9 : 0 ≤ x19_1
     ·
      rw [if_pos c9] at H
      have c9b0 : decide (0 ≤ x19_1) = true := decide_eq_true c9
      clear c9
      by_cases c10 : x19_1 < (l1.length : Int)
      ·
       rw [if_pos c10] at H
       have c10b0 : decide (x19_1 < (l1.length : Int)) = true := decide_eq_true c10
       clear c10
       replace H := Option.bind_eq_some_iff.mp H
       obtain ⟨t151, A110, H⟩ := H
       replace H : ((num_PutRow.f k1 x6_1 t151).bind fun t154 => (sym_PutTable.l0 k1 t154 l1 (l1.length : Int) (wrap64 (x19_1 + 1)))) = some (r1, r2) := H
       have A11 := aM A110
       clear A110
       replace H := Option.bind_eq_some_iff.mp H
       obtain ⟨t154, A120, H⟩ := H
       replace H : (sym_PutTable.l0 k1 t154 l1 (l1.length : Int) (wrap64 (x19_1 + 1))) = some (r1, r2) := H
       have A12 := aM A120
       clear A120
       have H' := aM H
       clear H
       have p150 : 0 ≤ (x19_1 : Int) := of_decide_eq_true (by first | (with_reducible assumption) | assumption)
       have q150 : x19_1 < (l1.length : Int) := of_decide_eq_true (by first | (with_reducible assumption) | assumption)
       obtain ⟨ad150, e150, hx150_0⟩ := Kd.at_string HR1.out x19_1 p150 q150
       cases e150
       replace hx150_0 := (HB.out.cell (World.block_lt_of_cell? w _ hx150_0)).trans hx150_0
       replace p150 := eq_true p150
       replace q150 := eq_true q150
       go_wp2_with (first | ((with_reducible refine gate_dst (N := 25) rfl ?_); refine bytes_event rfl 9 22 5 _ rfl Try.underlying9 Try.underlying22 Try.underlying5 (rdOf ByteArray.empty l1 x19_1) rfl _ A11.out ?_; intro v152 w13 ho0 hb; have n0_ := aM (Kd.R_below (xR HO_6.out) hb); have n1_ := aM (Kd.V_lower (Kd.V_mono (ok' := fun k_ => some k_ ≠ (u6 : Value).ownBlock) ho0 (fun k_ hk_ => (Kd.fresh' (Kd.R_lt (xR HO_6.out)) k_ hk_))) (below_size (xB HB.out))); have n2_ := aM (below_step (xB HB.out) hb); clear HO_6; clear HB; have HO_6 := n0_; have HO153 := n1_; have HB := n2_; clear n0_ n1_ n2_; (try clear hb); (try clear hb2); (try clear hk); (try clear hi); (try clear ho0); obtain ⟨Ao14, co14, eo14⟩ := Kd.R_slice HO_6.out; subst eo14; obtain ⟨Ao15, co15, eo15⟩ := Kd.V_slice HO153.out; subst eo15) | ((with_reducible refine gate_callee (f := 22) rfl ?_); refine goesL_ (some 26) rfl rfl Try.func22 (by kernel_rfl) rfl #[.slice Ao14 x6_1.length co14, .slice Ao15 t151.length co15] rfl (by (try simp only [List.map_toArray, List.map_cons, List.map_nil]); first | done | rfl | (simp only [List.length_drop, List.length_take]; rfl)) ?_; (with_reducible refine (num_PutRow.calls k1 _ _ x6_1 _ _ t151 t154 _ ?side1 ?side2 ?side3 ?side4 A12.out).mono ?_); (case side1 => exact xC ((Kd.R_reads' HO_6.out).2.2)); (case side2 => exact (Kd.R_reads' HO_6.out).2.1); (case side3 => exact xC ((Kd.V_reads' HO153.out).2.2)); (case side4 => exact (Kd.V_reads' HO153.out).2.1); rintro e w16 ⟨v155, rfl, ho0, hb⟩; refine ⟨_, rfl, ?_⟩; have n0_ := aM (Kd.R_elder' (xR HO_6.out) (Kd.R_base ho0) hb); have n1_ := aM (Kd.V_elder' (xV HO153.out) (Kd.R_base ho0) hb); have n2_ := aM (Kd.R_lower (Kd.R_new' ho0 (Kd.R_lt (xR HO_6.out))) (below_size (xB HB.out))); have n3_ := aM (below_step (xB HB.out) hb); clear HO_6; clear HO153; clear HB; have HO_6 := n0_; have HO153 := n1_; have HO156 := n2_; have HB := n3_; clear n0_ n1_ n2_ n3_; (try clear hb); (try clear hb2); (try clear hk); (try clear hi); (try clear ho0)))
       go_roundg k1
       case measure => have := HK1.out; omega
       case rel => exact ⟨(t154), (wrap64 (x19_1 + 1)), (by first | rfl | (simp; done) | (simp [*]; done)), H', ⟨by have := HK1.out; omega⟩, ⟨by (with_reducible repeat (first | apply Kd.R_alloc | apply Kd.R_drewN | apply Kd.R_drew)); exact Kd.R_mono HO156.out (fun _ hk => trivial)⟩, ⟨xB HB.out⟩⟩
      ·
       rw [if_neg c10] at H
       exact absurd H (by simp)
     ·
      rw [if_neg c9] at H
      exact absurd H (by simp)
    ·
     rw [if_neg c8] at H
     have c8b0 : decide (x19_1 < (l1.length : Int)) = false := decide_eq_false c8
     clear c8
     simp only [Option.some.injEq, Prod.mk.injEq] at H
     obtain ⟨rfl, rfl⟩ := H
     go_wp2
     go_ret2
     exact ⟨_, by first | rfl | (simp [errW_none, errW_some] <;> rfl) | (simp [*, errW_none, errW_some] <;> rfl), by (with_reducible repeat (first | apply Kd.R_alloc | apply Kd.R_drewN | apply Kd.R_drew)); exact HO_6.out, xB HB.out⟩
 ·
  replace c4 := Bool.eq_false_iff.mpr c4
  subst c4
  have H1 : (some (([] : List Int), 1)) = some (r1, r2) := by rw [if_neg (show ¬ (false = true) by decide)] at H; exact H
  clear H
  have H := H1
  clear H1
  simp only [Option.some.injEq, Prod.mk.injEq] at H
  obtain ⟨rfl, rfl⟩ := H
  go_enter Try.func19, Try.ntmps19
  go_wp2_with (first | ((with_reducible refine gate_callee (f := 46) rfl ?_); refine goesL_ (some 10) rfl rfl Try.func46 (by kernel_rfl) rfl #[.slice A1 l1.length c1] rfl (by (try simp only [List.map_toArray, List.map_cons, List.map_nil]); first | done | rfl | (simp only [List.length_drop, List.length_take]; rfl)) ?_; (with_reducible refine (sym_Formed.calls _ _ l1 false _ ?side1 ?side2 A3.out).mono ?_); (case side1 => exact xC HR1.out); (case side2 => exact HC1.out); rintro e w17 ⟨rfl, hb⟩; refine ⟨_, rfl, ?_⟩; have n0_ := aM (below_step (xB HB.out) hb); clear HB; have HB := n0_; clear n0_; (try clear hb); (try clear hb2); (try clear hk); (try clear hi)))
  go_ret2
  exact ⟨_, by first | rfl | (simp [errW_none, errW_some] <;> rfl) | (simp [*, errW_none, errW_some] <;> rfl), by first | exact Kd.R_nil _ _ _ _ _ | exact Kd.N_nil _ _ _ _ _ | exact Kd.V_nil _ _ _ _ _ | exact Kd.Q_nil _ _ _ _ _ | exact Kd.S_nil _ _ _ _ _, xB HB.out⟩
end Go.Proofs.Ythaifibhflfpkaa.Q
end
section
namespace Go.Proofs.Ythaifibhflfpkaa.Q
open Go.RowKit Go.Proofs.YthaifibhflfpkaaW.PrintWords Go.Proofs.YthaifibhflfpkaaW.PrintLast Go.Proofs.YthaifibhflfpkaaW.PrintMore Go.Proofs.YthaifibhflfpkaaX
namespace Law
def rowsB (t : List ByteArray) : List Int := t.flatMap fun s => rowB (bytesOf s)
def tabB (t : List ByteArray) : List Int := numB t.length ++ rowsB t
theorem strBytes_small (s : ByteArray) (h : s.size ≤ 8) : strBytes.f s = some (bytesOf s) := if_pos (by omega)
theorem rowB_small (s : ByteArray) (h : s.size ≤ 8) : (rowB (bytesOf s)).length ≤ 17 := by
  unfold rowB
  have := (numB_length (bytesOf s).length).2 (by rw [bytesOf_length]; omega)
  rw [List.length_append, bytesOf_length] at *
  omega
theorem rowsB_length : ∀ t : List ByteArray, (∀ s ∈ t, s.size ≤ 8) → (rowsB t).length ≤ 17 * t.length
  | [], _ => by simp [rowsB]
  | s :: t, h => by
    have h1 := rowsB_length t (fun z hz => h z (by simp [hz]))
    have h2 := rowB_small s (h s (by simp))
    unfold rowsB at *
    rw [List.flatMap_cons, List.length_append, List.length_cons]
    omega
theorem rdOf_at (t : List ByteArray) (i : Nat) (h : i < t.length) : rdOf ByteArray.empty t (i : Int) = t[i] := by
  unfold rdOf
  rw [Int.toNat_natCast, List.getD_eq_getElem?_getD, List.getElem?_eq_getElem h]
  rfl
theorem tab_loop (t : List ByteArray) (ht : ∀ s ∈ t, s.size ≤ 8) (hl : t.length ≤ 32) : ∀ (n i : Nat) (x : List Int), i + n = t.length → x.length ≤ 100 + 17 * i → Ev (fun k => sym_PutTable.l0 k x t (t.length : Int) (i : Int)) (x ++ rowsB (t.drop i), 0)
  | 0, i, x, hn, hx => by
    refine Ev.step (f := fun _ => some (x, 0)) (fun k => ?_) ?_
    · rw [sym_PutTable.l0, if_neg (by omega)]
    · rw [List.drop_eq_nil_of_le (by omega)]
      simpa [rowsB] using Ev.now (x, (0 : Int))
  | n + 1, i, x, hn, hx => by
    have hi : i < t.length := by omega
    have hs := ht t[i] (List.getElem_mem hi)
    refine Ev.step (f := fun k => (num_PutRow.f k x (bytesOf t[i])).bind fun y => sym_PutTable.l0 k y t (t.length : Int) ((i + 1 : Nat) : Int)) (fun k => ?_) ?_
    · rw [sym_PutTable.l0, if_pos (by omega), if_pos (by omega), if_pos (by omega), rdOf_at t i hi, strBytes_small _ hs]
      have hw : wrap64 ((i : Int) + 1) = ((i + 1 : Nat) : Int) := by unfold wrap64; omega
      rw [hw]
      rfl
    · refine Ev.bind (putRow x (bytesOf t[i]) (by rw [bytesOf_length]; omega)) ?_
      have h := tab_loop t ht hl n (i + 1) (x ++ rowB (bytesOf t[i])) (by omega) (by have := rowB_small t[i] hs; rw [List.length_append]; omega)
      rw [List.append_assoc] at h
      have e : rowB (bytesOf t[i]) ++ rowsB (t.drop (i + 1)) = rowsB (t.drop i) := by
        rw [List.drop_eq_getElem_cons hi]
        rfl
      rw [e] at h
      exact h
theorem putTable (t : List ByteArray) (h : sym_Formed.f t = some true) (ht : ∀ s ∈ t, s.size ≤ 8) (hl : t.length ≤ 32) : Ev (fun k => sym_PutTable.f k [] t) (tabB t, 0) := by
  unfold sym_PutTable.f
  refine Ev.get h (Ev.pos rfl ?_)
  rw [wrapu _ (by omega)]
  refine Ev.bind (put [] t.length (by omega) (by simp)) ?_
  have h1 := tab_loop t ht hl t.length 0 ([] ++ numB t.length) (by omega) (by have := (numB_length t.length).2 (by omega); simp; omega)
  exact h1
theorem tabB_length (t : List ByteArray) (ht : ∀ s ∈ t, s.size ≤ 8) (hl : t.length ≤ 32) : (tabB t).length ≤ 553 := by
  have h1 := rowsB_length t ht
  have h2 := (numB_length t.length).2 (by omega)
  unfold tabB
  rw [List.length_append]
  omega
end Law
end Go.Proofs.Ythaifibhflfpkaa.Q
end
section
namespace Go.Proofs.Ythaifibhflfpkaa.Q
open Go.RowKit Go.Proofs.YthaifibhflfpkaaW.PrintWords Go.Proofs.YthaifibhflfpkaaW.PrintLast Go.Proofs.YthaifibhflfpkaaW.PrintMore Go.Proofs.YthaifibhflfpkaaX
attribute [local go_sem] max2_int min2_int max_two min_two max_three min_three max_four min_four   -- for this text's walks alone
set_option linter.unusedVariables false
set_option linter.unusedSimpArgs false
def sym_Encode.code (t : List ByteArray) (y : List UInt8) : Option Int := ((t.map sym_Formed.key).findIdx? (· == y)).map (fun (i : Nat) => (i : Int))
def sym_Encode.hit (t : List ByteArray) (rs : ByteArray) : Nat → Option (Int × Nat)
 | 0 => none
 | 1 => none
 | n + 2 => match sym_Encode.code t (rs.extract 0 (n + 2)).data.toList with
  | some k => some (k, n + 2)
  | none => sym_Encode.hit t rs (n + 1)
def sym_Encode.enc (t : List ByteArray) : Nat → ByteArray → List Int
 | 0, _ => []
 | f + 1, rs => if rs.size = 0 then [] else match sym_Encode.hit t rs (min 8 rs.size) with
  | some (k, n) => (k % 256) :: sym_Encode.enc t f (rs.extract n rs.size)
  | none => 255 :: bt rs 0 :: sym_Encode.enc t f (rs.extract 1 rs.size)
def sym_Encode.f (l0 : List ByteArray) (l1 : List Int) : Option (List Int × Int) := (sym_Formed.f l0).bind fun t => if t = true then (if l1.length < 70000000000000 then some (sym_Encode.enc l0 l1.length (strOfNums l1), 0) else none) else some ([], 1)
theorem sym_Encode.code_next {t : List ByteArray} (ht : sym_Formed.ok t) (i : Nat) (s : ByteArray) (hs : t[i]? = some s) : upd (sym_Encode.code (t.take i)) (sym_Formed.key s) (i : Int) = sym_Encode.code (t.take (i + 1)) := by
 have hn := ((sym_Formed.ok_next t i s hs).1 (sym_Formed.ok_take ht (i + 1))).2.2
 have hi : i < t.length := (List.getElem?_eq_some_iff.1 hs).1
 have hl : (t.take i).length = i := by rw [List.length_take]; omega
 funext y
 unfold upd sym_Encode.code
 rw [List.take_add_one, hs]
 simp only [Option.toList_some, List.map_append, List.map_cons, List.map_nil, List.findIdx?_append, List.length_map, hl]
 by_cases h : y = sym_Formed.key s
 ·
  subst h
  rw [if_pos rfl]
  have h1 : (List.map sym_Formed.key (t.take i)).findIdx? (· == sym_Formed.key s) = none := by
   rw [List.findIdx?_eq_none_iff]
   intro x hx
   simp only [beq_eq_false_iff_ne, ne_eq]
   intro e
   exact hn (e ▸ hx)
  rw [h1]
  simp [List.findIdx?_cons]
 ·
  rw [if_neg h]
  have h2 : ([sym_Formed.key s] : List (List UInt8)).findIdx? (· == y) = none := by
   simp [List.findIdx?_cons]
   exact fun e => h e.symm
  rw [h2]
  simp
set_option maxHeartbeats 8000000 in
set_option maxRecDepth 100000 in
theorem sym_Encode.calls (A0 : Option Addr) (c0 : Nat) (l0 : List ByteArray) (A1 : Option Addr) (c1 : Nat) (l1 : List Int) (r1 : List Int) (r2 : Int) (w : World) (hr0 : Kd.C Kd.string w A0 l0.length l0) (hc0 : l0.length ≤ c0) (hr1 : Kd.C (Kd.int .u8) w A1 l1.length l1) (hc1 : l1.length ≤ c1) (h : sym_Encode.f l0 l1 = some (r1, r2)) :
  Calls Try.prog 20 #[.slice A0 l0.length c0, .slice A1 l1.length c1] w fun e w' => ∃ v0_ : Value, e = .returned (.tuple #[v0_, .int .i64 r2]) ∧ Kd.R (Kd.int .u8) 5 w' w.heap.size (fun _ => True) v0_ r1 ∧ Below w.heap.size w w' := by
 have HR0 := aM hr0
 have HC0 := aM hc0
 have HR1 := aM hr1
 have HC1 := aM hc1
 clear hr0 hc0 hr1 hc1
 have HB := aM (Below.refl w.heap.size w)
 have HT : Aside0 (Try.prog.underlying 65 = some (.map 9 3)) := ⟨by kernel_rfl⟩
 have HE : Aside0 (Try.prog.underlying 3 = some (.int .i64)) := ⟨by kernel_rfl⟩
 have HS : Aside0 (Try.prog.underlying 9 = some .string) := ⟨by kernel_rfl⟩
 have HZ : Aside0 (∀ w : World, (zeroValue 3).run Try.prog w = .ok (.int .i64 0) w) := ⟨fun w => by kernel_rfl⟩
 unfold sym_Encode.f at h
 rw [Option.bind_eq_some_iff] at h
 obtain ⟨t, ht, h⟩ := h
 have A3 := aM ht
 have hfo : sym_Formed.f l0 = some (decide (l0.length ≤ 32) && decide (sym_Formed.ok l0)) := rfl
 rw [hfo] at ht
 have HTT := aM (Option.some.inj ht)
 clear ht hfo
 cases t with
 | false =>
  rw [if_neg (by simp)] at h
  have HV := aM (Option.some.inj h)
  clear h
  go_enter Try.func20, Try.ntmps20
  go_wp2
  go_step3
  go_wp2_with (first | ((with_reducible refine gate_callee (f := 46) rfl ?_); refine goesL_ (some 15) rfl rfl Try.func46 (by kernel_rfl) rfl #[.slice A0 l0.length c0] rfl (by (try simp only [List.map_toArray, List.map_cons, List.map_nil]); first | done | rfl) ?_; (with_reducible refine (sym_Formed.calls _ _ l0 false _ ?side1 ?side2 A3.out).mono ?_); (case side1 => exact HR0.out); (case side2 => exact HC0.out); rintro e w1 ⟨rfl, hb⟩; refine ⟨_, rfl, ?_⟩; have HB1 := aM hb; clear hb))
  (try rw [Exit.noGoto_ret])
  go_ret2
  have hv := HV.out
  injection hv with hv1 hv2
  subst hv1
  subst hv2
  exact ⟨_, rfl, Kd.R_nil _ _ _ _ _, HB1.out⟩
 | true =>
  rw [if_pos rfl] at h
  split at h
  case isFalse => exact absurd h (by simp)
  case isTrue hlim =>
  have HLIM := aM hlim
  have HV := aM (Option.some.inj h)
  clear h hlim
  have HOK : Aside0 (l0.length ≤ 32 ∧ sym_Formed.ok l0) := ⟨by have := HTT.out; simpa using this⟩
  have hmm := @run_makeMap Try.prog
  go_enter Try.func20, Try.ntmps20
  go_wp2
  go_step3
  go_wp2_with (first | ((with_reducible refine gate_callee (f := 46) rfl ?_); refine goesL_ (some 15) rfl rfl Try.func46 (by kernel_rfl) rfl #[.slice A0 l0.length c0] rfl (by (try simp only [List.map_toArray, List.map_cons, List.map_nil]); first | done | rfl) ?_; (with_reducible refine (sym_Formed.calls _ _ l0 true _ ?side1 ?side2 A3.out).mono ?_); (case side1 => exact HR0.out); (case side2 => exact HC0.out); rintro e w1 ⟨rfl, hb⟩; refine ⟨_, rfl, ?_⟩; have HB1 := aM hb; clear hb))
  go_loopg [20] l0.length (fun kq v20 w' => ∃ (i : Int), v20 = .int .i64 i ∧ Aside0 (0 ≤ i ∧ (kq : Int) + i = l0.length) ∧ Aside0 (MapF Try.prog 9 3 Lit.string (Lit.int .i64) w' w1.heap.size i.toNat (sym_Encode.code (l0.take i.toNat))) ∧ Aside0 (Below w.heap.size w w'))
  case atStart => exact ⟨0, rfl, ⟨by omega, by omega⟩, ⟨MapF.made _ _ _ _ _ _⟩, ⟨below_alloc HB1.out _⟩⟩
  case round =>
   clear HB
   obtain ⟨i, rfl, HI, HM, HB⟩ := hrel
   cases gk with
   | succ k1 =>
    have c2b : decide (i < (l0.length : Int)) = true := decide_eq_true (by have := HI.out; omega)
    have p1 : 0 ≤ i := HI.out.1
    have q1 : i < (l0.length : Int) := by have := HI.out; omega
    obtain ⟨ad, rfl, hx⟩ := Kd.at_string (Kd.C_below HR0.out HB.out) i p1 q1
    have hg : l0[i.toNat]? = some (rdOf ByteArray.empty l0 i) := by
     unfold rdOf
     rw [List.getD_eq_getElem?_getD, List.getElem?_eq_getElem (by omega)]
     rfl
    obtain ⟨s, hs⟩ : ∃ s, s = rdOf ByteArray.empty l0 i := ⟨_, rfl⟩
    rw [← hs] at hx hg
    clear hs
    have HG := aM hg
    clear hg
    replace p1 := eq_true p1
    replace q1 := eq_true q1
    have HK : Aside0 (keyOf Try.prog 9 (.string s) = some (.string s.data.toList)) := ⟨Go.WideMaps.keyOf_string_mk HS.out (by have := (HOK.out.2.1 s (List.mem_of_getElem? HG.out)).2; unfold maxLen; omega)⟩
    go_wp2_with (first | (at_mapUpdate; refine map_store rfl _ _ _ 65 rfl (Maps.string_keyed HS.out) HT.out rfl HM.out (by have := HI.out; have := HOK.out.1; unfold maxLen; omega) (fun x y h => by injection h) _ _ (sym_Formed.key s) i rfl rfl HK.out (plainElem_int HE.out (WalkArith.wf_i64 (by have := HI.out; have := HOK.out.1; omega))) ?_; intro w2 hm1 hg1; have HM1 := aM hm1; have HB2 := aM (below_mapped HB.out hg1 (below_size HB1.out) (below_size HB.out)); clear hm1 hg1))
    go_roundg k1
    case measure => omega
    case rel =>
     have hi := HI.out
     have hl := HOK.out.1
     have hw : wrap64 (i + 1) = i + 1 := by unfold wrap64; omega
     have hn : (i + 1).toNat = i.toNat + 1 := by omega
     have hm2 := HM1.out
     have hcn := sym_Encode.code_next HOK.out.2 i.toNat s HG.out
     rw [Int.toNat_of_nonneg hi.1] at hcn
     rw [hcn, ← hn] at hm2
     exact ⟨i + 1, (by rw [hw]), ⟨by omega, by omega⟩, ⟨hm2⟩, ⟨HB2.out⟩⟩
   | zero =>
    have hi : i = l0.length := by have := HI.out; omega
    have c2b : decide (i < (l0.length : Int)) = false := decide_eq_false (by omega)
    have HM2 : Aside0 (MapF Try.prog 9 3 Lit.string (Lit.int .i64) wr w1.heap.size 32 (sym_Encode.code l0)) := ⟨by
     have h2 := HM.out
     rw [hi, Int.toNat_natCast, List.take_length] at h2
     exact h2.mono HOK.out.1⟩
    clear HM hi
    have hcv := Kd.C_string (P := Try.prog) (A := A1) (c := c1) Try.underlying22 Try.underlying5 Try.underlying9 (Kd.C_below HR1.out HB.out)
    go_wp2
    go_step3
    go_wp2
    go_loopg [9, 10] l1.length (fun kq v9 v10 w' => ∃ (out : List Int) (rs : ByteArray), v10 = .string rs ∧ Aside0 (rs.size ≤ kq ∧ out.length + 2 * rs.size ≤ 2 * l1.length) ∧ Aside0 (out ++ sym_Encode.enc l0 kq rs = r1) ∧ Aside0 (Kd.R (Kd.int .u8) 5 w' w.heap.size (fun _ => True) v9 out) ∧ Aside0 (MapF Try.prog 9 3 Lit.string (Lit.int .i64) w' w1.heap.size 32 (sym_Encode.code l0)) ∧ Aside0 (Below w.heap.size w w'))
    case atStart => exact ⟨[], _, rfl, ⟨by rw [strOfNums_size]; exact ⟨Nat.le_refl _, by simp⟩⟩, ⟨by have := congrArg Prod.fst HV.out; simpa using this⟩, ⟨Kd.R_nil _ _ _ _ _⟩, ⟨HM2.out⟩, ⟨HB.out⟩⟩
    case round =>
     clear HB HM2 hcv
     obtain ⟨out, rs, rfl, HSZ, HQ, HO, HM, HB⟩ := hrel
     by_cases hz : rs.size = 0
     ·
      have z1 : decide (0 < (rs.size : Int)) = false := decide_eq_false (by omega)
      have z2 : decide (0 < rs.size) = false := decide_eq_false (by omega)
      have HZ0 := aM hz
      clear hz
      go_wp2
      (try rw [Exit.noGoto_ret])
      go_ret2
      have hq := HQ.out
      have hv := HV.out
      injection hv with hv1 hv2
      subst hv2
      have : sym_Encode.enc l0 gk rs = [] := by
       cases gk with
       | zero => rfl
       | succ k1 => unfold sym_Encode.enc; rw [if_pos HZ0.out]
      rw [this, List.append_nil] at hq
      subst hq
      exact ⟨_, rfl, HO.out, HB.out⟩
     ·
      cases gk with
      | zero => exact absurd (Nat.le_zero.1 HSZ.out.1) hz
      | succ k1 =>
      have z1 : decide (0 < (rs.size : Int)) = true := decide_eq_true (by omega)
      have z2 : decide (0 < rs.size) = true := decide_eq_true (by omega)
      obtain ⟨mi, hmi⟩ : ∃ m : Int, (if (rs.size : Int) < 8 then (rs.size : Int) else 8) = m := ⟨_, rfl⟩
      have HMI : Aside0 (1 ≤ mi ∧ mi ≤ 8 ∧ mi ≤ rs.size ∧ mi.toNat = min 8 rs.size) := ⟨by rw [← hmi]; split <;> omega⟩
      have HNZ := aM hz
      clear hz
      go_wp2
      go_loopg [9, 10, 11] mi.toNat (fun kq v9 v10 v11 w' => v9 = u9 ∧ v10 = .string rs ∧ w' = wr ∧ ∃ n : Int, v11 = .int .i64 n ∧ Aside0 (1 ≤ n ∧ n ≤ mi ∧ (kq : Int) = n) ∧ Aside0 (sym_Encode.hit l0 rs mi.toNat = sym_Encode.hit l0 rs n.toNat))
      case atStart => exact ⟨rfl, rfl, rfl, mi, by first | rfl | simp, ⟨by have := HMI.out; omega⟩, ⟨rfl⟩⟩
      case round =>
       clear hmi
       obtain ⟨e9, e10, ew, n, rfl, HN, HH⟩ := hrel
       subst e9
       subst e10
       subst ew
       by_cases hn2 : 2 ≤ n
       ·
        have n1 : decide (2 ≤ n) = true := decide_eq_true hn2
        have s1 := eq_true (show 0 ≤ n by omega)
        have s2 : (n ≤ (rs.size : Int)) = True := eq_true (by have := HN.out; have := HMI.out; omega)
        have s3 : decide (n ≤ (rs.size : Int)) = true := decide_eq_true (by have := HN.out; have := HMI.out; omega)
        have s4 : decide (0 ≤ n) = true := decide_eq_true (by omega)
        have hes : (rs.extract 0 n.toNat).size = n.toNat := by
         have := HN.out
         have := HMI.out
         rw [ByteArray.size_extract]
         omega
        have HK : Aside0 (keyOf Try.prog 9 (.string (rs.extract 0 n.toNat)) = some (.string (rs.extract 0 n.toNat).data.toList)) := ⟨Go.WideMaps.keyOf_string_mk HS.out (by have := HN.out; have := HMI.out; rw [hes]; unfold maxLen; omega)⟩
        have HN2 := aM hn2
        clear hn2 hes
        cases hcd : sym_Encode.code l0 (rs.extract 0 n.toNat).data.toList with
        | none =>
         have HC := aM hcd
         clear hcd
         go_wp2_with (first | (at_lookup; refine map_look_ok rfl _ _ 65 rfl (Maps.string_keyed HS.out) HT.out HE.out (HZ.out _) rfl HM.out _ (rs.extract 0 n.toNat).data.toList rfl HK.out ?_; (rw [HC.out]; simp only [Option.getD_none, Option.isSome_none])))
         go_roundg (n - 1).toNat
         case measure => have := HN.out; have := HN2.out; omega
         case rel =>
          have hn := HN.out
          have hn2 := HN2.out
          have hm := HMI.out
          have hw : wrap64 (n - 1) = n - 1 := by unfold wrap64; omega
          refine ⟨rfl, rfl, rfl, n - 1, by rw [hw], ⟨by omega⟩, ⟨?_⟩⟩
          rw [HH.out]
          have he : n.toNat = ((n - 1).toNat - 1) + 2 := by omega
          have he2 : (n - 1).toNat = ((n - 1).toNat - 1) + 1 := by omega
          rw [he2, he, sym_Encode.hit]
          rw [← he, HC.out]
        | some kv =>
         have HC := aM hcd
         clear hcd
         have HHIT : Aside0 (sym_Encode.hit l0 rs (min 8 rs.size) = some (kv, n.toNat)) := ⟨by
          have hn := HN.out
          have hn2 := HN2.out
          rw [← HMI.out.2.2.2, HH.out]
          have he : n.toNat = (n.toNat - 2) + 2 := by omega
          rw [he, sym_Encode.hit, ← he, HC.out]⟩
         go_wp2_with (first | (at_lookup; refine map_look_ok rfl _ _ 65 rfl (Maps.string_keyed HS.out) HT.out HE.out (HZ.out _) rfl HM.out _ (rs.extract 0 n.toNat).data.toList rfl HK.out ?_; (rw [HC.out]; simp only [Option.getD_some, Option.isSome_some])))
         have HO1 := aM (Kd.R_drew HO.out)
         have HM1 := aM HM.out.drew
         have HB1' := aM (below_drew1 HB.out)
         refine start_ (n := 10) (S := fun w' => True) (ds := []) b1_ (by kernel_rfl) rfl rfl trivial (fun hHeld => ?_)
         generalize wr.drew = w24 at HO1 HM1 HB1' hHeld ⊢
         refine pure_ (i := 0) (N := some 50) (v := ?_) (a' := ?_) b3_ rfl rfl (by kernel_rfl) (fun _ _ _ h => h) (Or.inl ⟨by rfl, ?_⟩) ?_ ?_; rotate_left; (· intro w'; go_simp; with_reducible rfl); rotate_left; (· simp only [xQ, i64_w, i32_w]; rfl)
         refine pure_ (i := 1) (N := some 51) (v := ?_) (a' := ?_) b5_ rfl rfl (by kernel_rfl) (fun _ _ _ h => h) (Or.inl ⟨by rfl, ?_⟩) ?_ ?_; rotate_left; (· intro w'; go_simp; with_reducible rfl); rotate_left; (· simp only [xQ, i64_w, i32_w]; rfl)
         refine pure_ (i := 2) (N := some 52) (v := ?_) (a' := ?_) b8_ rfl rfl (by kernel_rfl) (fun _ _ _ h => h) (Or.inl ⟨by rfl, ?_⟩) ?_ ?_; rotate_left; (· intro w'; go_simp; with_reducible rfl); rotate_left; (· simp only [xQ, i64_w, i32_w]; rfl)
         refine pure_ (i := 5) (N := some 55) (v := ?_) (a' := ?_) b9_ rfl rfl (by kernel_rfl) (fun _ _ _ h => h) (Or.inl ⟨by rfl, ?_⟩) ?_ ?_; rotate_left; (· intro w'; go_simp; with_reducible rfl); rotate_left; (· simp only [xQ, i64_w, i32_w]; rfl)
         refine pure_ (i := 6) (N := some 56) (v := ?_) (a' := ?_) b11_ rfl rfl (by kernel_rfl) (fun _ _ _ h => h) (Or.inl ⟨by rfl, ?_⟩) ?_ ?_; rotate_left; (· intro w'; go_simp; with_reducible rfl); rotate_left; (· simp only [xQ, i64_w, i32_w]; rfl)
         refine pure_ (i := 7) (N := some 57) (v := ?_) (a' := ?_) b12_ rfl rfl (by kernel_rfl) (fun _ _ _ h => h) (Or.inl ⟨by rfl, ?_⟩) ?_ ?_; rotate_left; (· intro w'; go_simp; with_reducible rfl); rotate_left; (· simp only [xQ, i64_w, i32_w]; rfl)
         refine one_ (i := 3) (N := some 53) b14_ rfl rfl (by kernel_rfl) (by decide) (fun K hK => ?_)
         refine value_ (w1 := ?_) (v := ?_) (by rfl) rfl ?_ ?_
         rotate_left 2
         ·
          go_simp
          constructor
          · rfl
          · rfl
         refine hK.out _ _ trivial (fun hHeld => ?_)
         clear hK K
         refine norm_ (a' := ?_) ?_ ?_
         rotate_left
         ·
          show Act.put _ (some 53) _ = _
          simp only [xQ, i64_w, i32_w]
          rfl
         refine one_ (i := 4) (N := some 54) b17_ rfl rfl (by kernel_rfl) (by decide) (fun K hK => ?_)
         refine Kd.R_append_step (Kd.int .u8) (w0 := w) w.heap.size (by rfl) (.tmp 50) (.tmp 53) 22 5 (.int .u8 0) 1 rfl Try.underlying22 info5 rfl (by decide) (by omega) u9 out (kv % 256) [.int .u8 (kv % 256)] (fun _ => True) (fun _ => False) rfl rfl ?aP (fun _ hk => hk.elim) ?aF ?aO ?aB ?aS ?aL ?_
         (case aP => exact rfl)
         (case aF => exact (fun _ _ => trivial))
         (case aO => exact HO1.out)
         (case aB => exact HB1'.out)
         (case aS => exact below_size HB1'.out)
         (case aL => have := HSZ.out; have := HLIM.out; omega)
         intro v54 w54 ho hb hg hat
         have HO2 := aM ho
         have HB2 := aM hb
         have HM2 := aM (HM1.out.kept hg (HM1.out.ne_row HO1.out))
         clear ho hb hg hat
         refine hK.out _ _ trivial (fun hHeld => ?_)
         clear hK K
         refine norm_ (a' := ?_) ?_ ?_
         rotate_left
         ·
          show Act.put _ (some 54) _ = _
          simp only [xQ, i64_w, i32_w]
          rfl
         refine pure_ (i := 8) (N := some 9) (v := ?_) (a' := ?_) b19_ rfl rfl (by kernel_rfl) (fun _ _ _ h => h) (Or.inl ⟨by rfl, ?_⟩) ?_ ?_; rotate_left; (· intro w'; go_simp; with_reducible rfl); rotate_left; (· simp only [xQ, i64_w, i32_w]; rfl)
         refine pure_ (i := 9) (N := some 10) (v := ?_) (a' := ?_) b20_ rfl rfl (by kernel_rfl) (fun _ _ _ h => h) (Or.inl ⟨by rfl, ?_⟩) ?_ ?_; rotate_left; (· intro w'; go_simp; with_reducible rfl); rotate_left; (· simp only [xQ, i64_w, i32_w]; rfl)
         refine done_ (by kernel_rfl) ?_
         go_wp2
         go_roundg k1
         case measure => omega
         case rel =>
          have hn := HN.out
          have hn2 := HN2.out
          have hm := HMI.out
          have hs := HSZ.out
          have hse : (rs.extract n.toNat rs.size).size = rs.size - n.toNat := by rw [ByteArray.size_extract]; omega
          refine ⟨out ++ [kv % 256], rs.extract n.toNat rs.size, rfl, ⟨?_⟩, ⟨?_⟩, ⟨HO2.out⟩, ⟨HM2.out⟩, ⟨HB2.out⟩⟩
          ·
           rw [hse, List.length_append]
           simp only [List.length_singleton]
           omega
          ·
           have hq := HQ.out
           rw [sym_Encode.enc, if_neg HNZ.out, HHIT.out] at hq
           simpa using hq
       ·
        have n1 : decide (2 ≤ n) = false := decide_eq_false hn2
        have HHIT : Aside0 (sym_Encode.hit l0 rs (min 8 rs.size) = none) := ⟨by
         have hn := HN.out
         have he : n.toNat = 1 := by omega
         rw [← HMI.out.2.2.2, HH.out, he]
         rfl⟩
        clear hn2
        have HO1 := aM (Kd.R_drew HO.out)
        have HM1 := aM HM.out.drew
        have HB1' := aM (below_drew1 HB.out)
        have q60 : 0 < rs.size := by have := HNZ.out; omega
        have hx60 : ∀ h : 0 < rs.size, ((rs[0]'h).toNat : Int) = bt rs 0 := bt_at rs 0
        have qi60 : (0 < (rs.size : Int)) = True := eq_true (by omega)
        have qj60 : (1 ≤ (rs.size : Int)) = True := eq_true (by omega)
        have qk60 : decide (1 ≤ (rs.size : Int)) = true := decide_eq_true (by omega)
        replace q60 := eq_true q60
        go_wp2
        refine start_ (n := 9) (S := fun w' => True) (ds := []) b0_ (by kernel_rfl) rfl rfl trivial (fun hHeld => ?_)
        generalize wr.drew = w24 at HO1 HM1 HB1' hHeld ⊢
        refine pure_ (i := 0) (N := some 58) (v := ?_) (a' := ?_) b2_ rfl rfl (by kernel_rfl) (fun _ _ _ h => h) (Or.inl ⟨by rfl, ?_⟩) ?_ ?_; rotate_left; (· intro w'; go_simp; with_reducible rfl); rotate_left; (· simp only [xQ, i64_w, i32_w]; rfl)
        refine pure_ (i := 1) (N := some 59) (v := ?_) (a' := ?_) b4_ rfl rfl (by kernel_rfl) (fun _ _ _ h => h) (Or.inl ⟨by rfl, ?_⟩) ?_ ?_; rotate_left; (· intro w'; go_simp; with_reducible rfl); rotate_left; (· simp only [xQ, i64_w, i32_w]; rfl)
        refine pure_ (i := 5) (N := some 63) (v := ?_) (a' := ?_) b6_ rfl rfl (by kernel_rfl) (fun _ _ _ h => h) (Or.inl ⟨by rfl, ?_⟩) ?_ ?_; rotate_left; (· intro w'; go_simp; with_reducible rfl); rotate_left; (· simp only [xQ, i64_w, i32_w]; rfl)
        refine pure_ (i := 6) (N := some 64) (v := ?_) (a' := ?_) b7_ rfl rfl (by kernel_rfl) (fun _ _ _ h => h) (Or.inl ⟨by rfl, ?_⟩) ?_ ?_; rotate_left; (· intro w'; go_simp; with_reducible rfl); rotate_left; (· simp only [xQ, i64_w, i32_w]; rfl)
        refine take_ (i := 2) (N := some 60) (v := ?_) (a' := ?_) b10_ rfl rfl (by kernel_rfl) (fun _ _ _ h => h) (Or.inl ⟨by rfl, ?_⟩) hHeld ?_ ?_
        rotate_left
        ·
         intro w' _
         go_simp
         with_reducible rfl
        rotate_left
        ·
         simp only [xQ, i64_w, i32_w]
         rfl
        refine one_ (i := 3) (N := some 61) b13_ rfl rfl (by kernel_rfl) (by decide) (fun K hK => ?_)
        refine Kd.R_lit_step (Kd.int .u8) _ 5 ?hg (N := 61) ?hd (xs := ([255, bt rs 0] : List Int)) (inner := [.int .u8 255, .int .u8 (bt rs 0)]) (ok := fun _ => True) (okp := fun _ => True) ?hr ?hp (fun _ hk => hk) trivial (Below.refl _ _) (Nat.le_refl _) (by simp) ?_
        (case hd => rfl)
        (case hg => rfl)
        (case hr => first | (go_simp; done) | (go_simp; rfl))
        (case hp => exact (Reps.one (show Kd.M (Kd.int .u8) _ _ _ 255 [.int .u8 255] from rfl) (Reps.one (show Kd.M (Kd.int .u8) _ _ _ (bt rs 0) [.int .u8 (bt rs 0)] from rfl) (Reps.none _ _))))
        intro v61 w61 ho61 hb61 hg_ hnew_
        have HO2 := aM (Kd.R_below HO1.out hb61)
        have HM2 := aM (HM1.out.below hb61)
        have HB2 := aM (below_step HB1'.out hb61)
        have HL61 := aM ho61
        clear ho61 hb61 hg_ hnew_
        obtain ⟨A61, c61, e61⟩ := Kd.R_slice HL61.out
        subst e61
        refine hK.out _ _ trivial (fun hHeld => ?_)
        clear hK K
        refine norm_ (a' := ?_) ?_ ?_
        rotate_left
        ·
         show Act.put _ (some 61) _ = _
         simp only [xQ, i64_w, i32_w]
         rfl
        refine one_ (i := 4) (N := some 62) b15_ rfl rfl (by kernel_rfl) (by decide) (fun K hK => ?_)
        refine Kd.R_append_rows_step (Kd.int .u8) (w0 := w) w.heap.size (by rfl) (.tmp 58) (.tmp 61) 22 5 (.int .u8 0) 1 rfl Try.underlying22 info5 rfl (by decide) (by omega) u9 out [255, bt rs 0] _ _ _ (fun _ => True) (fun _ => False) rfl rfl ?aO ?aR (fun _ _ h => h) (fun _ h => h.elim) ?aF ?aB ?aS ?aL ?_
        (case aR => exact (Kd.R_reads' HL61.out).2.2)
        (case aB => exact HB2.out)
        (case aF => exact (fun _ _ => trivial))
        (case aO => exact HO2.out)
        (case aS => exact below_size HB2.out)
        (case aL => have := HSZ.out; have := HLIM.out; simp only [List.length_cons, List.length_nil]; omega)
        intro v62 w62 ho hb hg hat
        have HO3 := aM ho
        have HB3 := aM hb
        have HM3 := aM (HM2.out.kept hg (HM2.out.ne_row HO2.out))
        clear ho hb hg hat
        refine hK.out _ _ trivial (fun hHeld => ?_)
        clear hK K
        refine norm_ (a' := ?_) ?_ ?_
        rotate_left
        ·
         show Act.put _ (some 62) _ = _
         simp only [xQ, i64_w, i32_w]
         rfl
        refine pure_ (i := 7) (N := some 9) (v := ?_) (a' := ?_) b16_ rfl rfl (by kernel_rfl) (fun _ _ _ h => h) (Or.inl ⟨by rfl, ?_⟩) ?_ ?_; rotate_left; (· intro w'; go_simp; with_reducible rfl); rotate_left; (· simp only [xQ, i64_w, i32_w]; rfl)
        refine pure_ (i := 8) (N := some 10) (v := ?_) (a' := ?_) b18_ rfl rfl (by kernel_rfl) (fun _ _ _ h => h) (Or.inl ⟨by rfl, ?_⟩) ?_ ?_; rotate_left; (· intro w'; go_simp; with_reducible rfl); rotate_left; (· simp only [xQ, i64_w, i32_w]; rfl)
        refine done_ (by kernel_rfl) ?_
        go_wp2
        go_roundg k1
        case measure => omega
        case rel =>
         have hs := HSZ.out
         have hz0 := HNZ.out
         have hse : (rs.extract 1 rs.size).size = rs.size - 1 := by rw [ByteArray.size_extract]; omega
         refine ⟨out ++ [255, bt rs 0], rs.extract 1 rs.size, rfl, ⟨?_⟩, ⟨?_⟩, ⟨HO3.out⟩, ⟨HM3.out⟩, ⟨HB3.out⟩⟩
         ·
          rw [hse, List.length_append]
          simp only [List.length_cons, List.length_nil]
          omega
         ·
          have hq := HQ.out
          rw [sym_Encode.enc, if_neg HNZ.out, HHIT.out] at hq
          simpa using hq
end Go.Proofs.Ythaifibhflfpkaa.Q
end
section
namespace Go.Proofs.Ythaifibhflfpkaa.Q
open Go.RowKit Go.Proofs.YthaifibhflfpkaaW.PrintWords Go.Proofs.YthaifibhflfpkaaW.PrintLast Go.Proofs.YthaifibhflfpkaaW.PrintMore Go.Proofs.YthaifibhflfpkaaX
namespace Law
theorem ba_ext {a b : ByteArray} (h : a.data.toList = b.data.toList) : a = b := by
  obtain ⟨⟨a⟩⟩ := a
  obtain ⟨⟨b⟩⟩ := b
  simp at h
  subst h
  rfl
theorem ext_take (u : List Int) (n : Nat) : (strOfNums u).extract 0 n = strOfNums (u.take n) := by
  apply ba_ext
  simp [strOfNums, List.map_take]
theorem ext_drop (u : List Int) (n : Nat) : (strOfNums u).extract n (strOfNums u).size = strOfNums (u.drop n) := by
  apply ba_ext
  rw [strOfNums_size]
  simp [strOfNums, List.map_drop]
  rw [List.take_of_length_le (by simp)]
theorem bytesOf_str (u : List Int) (hu : ∀ x ∈ u, 0 ≤ x ∧ x < 256) : bytesOf (strOfNums u) = u := by
  unfold bytesOf strOfNums
  simp only [List.map_map]
  conv => rhs; rw [← List.map_id u]
  refine List.map_congr_left fun x hx => ?_
  have h := hu x hx
  simp
  omega
def okT (t : List ByteArray) : Prop := t.length ≤ 32 ∧ sym_Formed.ok t
theorem okT_size {t : List ByteArray} (h : okT t) (s : ByteArray) (hs : s ∈ t) : s.size ≤ 8 := (h.2.1 s hs).2
theorem okT_f {t : List ByteArray} (h : okT t) : sym_Formed.f t = some true := by
  unfold sym_Formed.f
  rw [decide_eq_true h.1, decide_eq_true h.2]
  rfl
def pre (u : List Int) (s : ByteArray) : Prop := s.size ≤ u.length ∧ s.data.toList = (strOfNums (u.take s.size)).data.toList
theorem hit_is {t : List ByteArray} (rs : ByteArray) : ∀ m k n, sym_Encode.hit t rs m = some (k, n) → n ≤ m ∧ 2 ≤ n ∧ ∃ i, ∃ hi : i < t.length, k = (i : Int) ∧ t[i].data.toList = (rs.extract 0 n).data.toList
  | 0, k, n, h => by cases h
  | 1, k, n, h => by cases h
  | m + 2, k, n, h => by
    rw [sym_Encode.hit] at h
    split at h
    · rename_i k' hk'
      cases h
      unfold sym_Encode.code at hk'
      rw [Option.map_eq_some_iff] at hk'
      obtain ⟨i, hi, rfl⟩ := hk'
      rw [List.findIdx?_eq_some_iff_getElem] at hi
      obtain ⟨hi, he, _⟩ := hi
      refine ⟨Nat.le_refl _, by omega, i, by simpa using hi, rfl, ?_⟩
      simpa [sym_Formed.key] using he
    · have := hit_is rs (m + 1) k n h
      exact ⟨by omega, this.2⟩
theorem enc_len (t : List ByteArray) : ∀ f rs, (sym_Encode.enc t f rs).length ≤ 2 * f
  | 0, _ => by simp [sym_Encode.enc]
  | f + 1, rs => by
    rw [sym_Encode.enc]
    split
    · simp
    · split
      · have := enc_len t f
        simp only [List.length_cons]
        have h := this (rs.extract (by assumption) rs.size)
        omega
      · have := enc_len t f (rs.extract 1 rs.size)
        simp only [List.length_cons]
        omega
theorem encode' {t : List ByteArray} (h : okT t) (l : List Int) (hl : l.length < 10000000000000) : sym_Encode.f t l = some (sym_Encode.enc t l.length (strOfNums l), 0) := by
  unfold sym_Encode.f
  rw [okT_f h, Option.bind_some, if_pos rfl, if_pos (by omega)]
end Law
end Go.Proofs.Ythaifibhflfpkaa.Q
end
