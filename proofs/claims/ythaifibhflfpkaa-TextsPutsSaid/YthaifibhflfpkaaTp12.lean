/- A part of the claim's own texts: words, walks and plain laws. -/
import Derived.Test.YthaifibhflfpkaaTp9
import Derived.Test.YthaifibhflfpkaaTp11
import Derived.Sort.Walk0
import Derived.Test.YthaifibhflfpkaaTp2
import Derived.Test.YthaifibhflfpkaaTp6
section
namespace Go.Proofs.Ythaifibhflfpkaa.Q
open Go.RowKit Go.Proofs.YthaifibhflfpkaaW.PrintWords Go.Proofs.YthaifibhflfpkaaW.PrintLast Go.Proofs.YthaifibhflfpkaaW.PrintMore Go.Proofs.YthaifibhflfpkaaX Go.Sort Go.Shelf
namespace Law
def txt (p : S85) : List UInt8 := p.f0.data.toList
structure Rep (l : List S85) (ws : List (List UInt8)) : Prop where
  nodup : (l.map txt).Nodup
  mem : ∀ y, y ∈ ws → y ∈ l.map txt
  cnt : ∀ p ∈ l, txt p ∈ ws ∧ p.f1 = (ws.count (txt p) : Int)
theorem Rep.nil : Rep [] [] := ⟨by simp, fun y h => by simp at h, fun p h => by simp at h⟩
theorem Rep.len {l : List S85} {ws : List (List UInt8)} (h : Rep l ws) : l.length ≤ ws.length := by
  have := sym_Train.keys_len (l.map txt) ws h.nodup (fun y hy => by
    obtain ⟨p, hp, rfl⟩ := List.mem_map.1 hy
    exact (h.cnt p hp).1)
  simpa using this
theorem rdT_at (l : List S85) (i : Nat) (h : i < l.length) : rd_T85 l (i : Int) = l[i] := by
  unfold rd_T85
  rw [Int.toNat_natCast, List.getD_eq_getElem?_getD, List.getElem?_eq_getElem h]
  rfl
theorem txt_inj {l : List S85} (h : (l.map txt).Nodup) (i j : Nat) (hi : i < l.length) (hj : j < l.length) (he : txt l[i] = txt l[j]) : i = j := by
  have hp := List.pairwise_iff_getElem.1 h
  rcases Nat.lt_trichotomy i j with h1 | h1 | h1
  · exact absurd (by rw [List.getElem_map, List.getElem_map]; exact he) (hp i j (by simpa using hi) (by simpa using hj) h1)
  · exact h1
  · exact absurd (by rw [List.getElem_map, List.getElem_map]; exact he.symm) (hp j i (by simpa using hj) (by simpa using hi) h1)
theorem map_set_same (l : List S85) (j : Nat) (hj : j < l.length) (z : S85) (hz : txt z = txt l[j]) : (l.set j z).map txt = l.map txt := by
  rw [List.map_set, hz]
  have : txt l[j] = (l.map txt)[j]'(by simpa using hj) := by simp
  rw [this, List.set_getElem_self]
theorem Rep.set {l : List S85} {ws : List (List UInt8)} (h : Rep l ws) (j : Nat) (hj : j < l.length) (z : S85) (h0 : z.f0 = l[j].f0) (h1 : z.f1 = l[j].f1 + 1) : Rep (l.set j z) (ws ++ [txt l[j]]) := by
  have hz : txt z = txt l[j] := by unfold txt; rw [h0]
  have hm := map_set_same l j hj z hz
  refine ⟨by rw [hm]; exact h.nodup, fun y hy => ?_, fun p hp => ?_⟩
  · rw [hm]
    rcases List.mem_append.1 hy with hy | hy
    · exact h.mem y hy
    · rw [List.mem_singleton.1 hy]
      exact List.mem_map.2 ⟨_, List.getElem_mem hj, rfl⟩
  · obtain ⟨i, hi, rfl⟩ := List.getElem_of_mem hp
    have hi' : i < l.length := by simpa using hi
    rw [List.getElem_set]
    by_cases he : j = i
    · subst he
      rw [if_pos rfl, hz]
      refine ⟨by simp, ?_⟩
      rw [h1, (h.cnt _ (List.getElem_mem hj)).2, List.count_append]
      simp
    · rw [if_neg he]
      have hc := h.cnt _ (List.getElem_mem hi')
      refine ⟨List.mem_append.2 (.inl hc.1), ?_⟩
      rw [hc.2, List.count_append]
      have hne : txt l[i] ≠ txt l[j] := fun e => he (txt_inj h.nodup i j hi' hj e).symm
      have : ([txt l[j]] : List (List UInt8)).count (txt l[i]) = 0 := by
        rw [List.count_eq_zero]
        simp
        exact hne
      omega
theorem Rep.push {l : List S85} {ws : List (List UInt8)} (h : Rep l ws) (z : S85) (hz : z.f1 = 1) (hn : ∀ p ∈ l, txt p ≠ txt z) : Rep (l ++ [z]) (ws ++ [txt z]) := by
  have hw : txt z ∉ ws := fun hm => by
    obtain ⟨p, hp, he⟩ := List.mem_map.1 (h.mem _ hm)
    exact hn p hp he
  refine ⟨?_, fun y hy => ?_, fun p hp => ?_⟩
  · rw [List.map_append, List.nodup_append]
    refine ⟨h.nodup, by simp, ?_⟩
    intro a ha b hb
    obtain ⟨p, hp, rfl⟩ := List.mem_map.1 ha
    simp at hb
    subst hb
    exact hn p hp
  · rw [List.map_append]
    rcases List.mem_append.1 hy with hy | hy
    · exact List.mem_append.2 (.inl (h.mem y hy))
    · exact List.mem_append.2 (.inr (by simpa using hy))
  · rw [List.count_append]
    rcases List.mem_append.1 hp with hp | hp
    · have hc := h.cnt p hp
      refine ⟨List.mem_append.2 (.inl hc.1), ?_⟩
      have : ([txt z] : List (List UInt8)).count (txt p) = 0 := by
        rw [List.count_eq_zero]
        simp
        exact hn p hp
      rw [hc.2, this]
      rfl
    · rw [List.mem_singleton.1 hp]
      refine ⟨by simp, ?_⟩
      rw [hz, List.count_eq_zero.2 hw]
      simp
theorem ba_list (s : ByteArray) : s.toList = s.data.toList := ByteArray.toList_eq s
theorem pieces_l3 (x0 : List (List Int)) {l : List S85} {ws : List (List UInt8)} (h : Rep l ws) (hw : ws.length ≤ 100000) (x4 x5 : Int) (s : ByteArray) (p n : Nat) (hp : p + n ≤ s.size) (hs : s.size ≤ 10000) : ∃ l', Rep l' (ws ++ [(s.extract p (p + n)).data.toList]) ∧ ∀ R, Ev (fun k => r06_Pieces.l2 k x0 l' x4 x5 s (p : Int) ((n + 1 : Nat) : Int)) R → Ev (fun k => r06_Pieces.l3 k x0 l x4 x5 s (p : Int) (n : Int) false 0) R := by
  have hlen := h.len
  have HN := Lib.hid (w64_succ n (by omega))
  have HP := Lib.hid (w64_add p n (by omega) (by omega))
  by_cases hex : ∃ j, ∃ hj : j < l.length, txt l[j] = (s.extract p (p + n)).data.toList
  · obtain ⟨j, hj, he⟩ := hex
    have hc := h.cnt _ (List.getElem_mem hj)
    have hcl : ws.count (txt l[j]) ≤ ws.length := List.count_le_length
    have HF := Lib.hid (w64_nat (l[j].f1 + 1) (ws.count (txt l[j]) + 1) (by omega) (by omega))
    refine ⟨l.set j ⟨l[j].f0, l[j].f1 + 1⟩, by rw [← he]; exact h.set j hj _ rfl rfl, fun R hR => ?_⟩
    have hloop : ∀ d i, i + d = j → Ev (fun k => r06_Pieces.l3 k x0 l x4 x5 s (p : Int) (n : Int) false (i : Int)) R := by
      intro d
      induction d with
      | zero =>
        intro i hi
        have e : i = j := by omega
        subst e
        refine Ev.step (fun k => by rw [r06_Pieces.l3, rdT_at l i hj, HP.out, HN.out, HF.out, Int.toNat_natCast, Int.toNat_natCast, Int.toNat_natCast]) ?_
        refine Ev.pos (by omega) (Ev.pos (by omega) (Ev.pos (by omega) (Ev.pos (by omega) (Ev.pos (by omega) (Ev.pos ?_ ?_)))))
        · rw [ba_list, ba_list]
          exact he
        · have e : (((ws.count (txt l[i]) + 1 : Nat) : Int)) = l[i].f1 + 1 := by rw [hc.2]; omega
          rw [e]
          exact hR
      | succ d ih =>
        intro i hi
        have hil : i < l.length := by omega
        refine Ev.step (fun k => by rw [r06_Pieces.l3, rdT_at l i hil, HP.out, w64_succ i (by omega), Int.toNat_natCast, Int.toNat_natCast, Int.toNat_natCast]) ?_
        refine Ev.pos (by omega) (Ev.pos (by omega) (Ev.pos (by omega) (Ev.pos (by omega) (Ev.pos (by omega) (Ev.neg ?_ (ih (i + 1) (by omega)))))))
        rw [ba_list, ba_list]
        intro he2
        have := txt_inj h.nodup i j hil hj (by rw [he]; exact he2)
        omega
    exact hloop j 0 (by omega)
  · have hno : ∀ j (hj : j < l.length), txt l[j] ≠ (s.extract p (p + n)).data.toList := fun j hj he => hex ⟨j, hj, he⟩
    refine ⟨l ++ [⟨s.extract p (p + n), 1⟩], ?_, fun R hR => ?_⟩
    · refine h.push ⟨s.extract p (p + n), 1⟩ rfl (fun q hq => ?_)
      obtain ⟨j, hj, rfl⟩ := List.getElem_of_mem hq
      exact hno j hj
    · have hloop : ∀ d i, i + d = l.length → Ev (fun k => r06_Pieces.l3 k x0 l x4 x5 s (p : Int) (n : Int) false (i : Int)) R := by
        intro d
        induction d with
        | zero =>
          intro i hi
          refine Ev.step (fun k => by rw [r06_Pieces.l3, HP.out, HN.out, Int.toNat_natCast, Int.toNat_natCast]) ?_
          exact Ev.neg (by omega) (Ev.neg (by decide) (Ev.pos (by omega) (Ev.pos (by omega) (Ev.pos (by omega) (Ev.pos (by omega) hR)))))
        | succ d ih =>
          intro i hi
          have hil : i < l.length := by omega
          refine Ev.step (fun k => by rw [r06_Pieces.l3, rdT_at l i hil, HP.out, w64_succ i (by omega), Int.toNat_natCast, Int.toNat_natCast, Int.toNat_natCast]) ?_
          refine Ev.pos (by omega) (Ev.pos (by omega) (Ev.pos (by omega) (Ev.pos (by omega) (Ev.pos (by omega) (Ev.neg ?_ (ih (i + 1) (by omega)))))))
          rw [ba_list, ba_list]
          exact hno i hil
      exact hloop l.length 0 (by omega)
theorem pieces_l2 (x0 : List (List Int)) (x4 x5 : Int) (s : ByteArray) (hs : s.size ≤ 10000) (p : Nat) (hp : p < s.size) : ∀ (f n : Nat) (l : List S85) (ws : List (List UInt8)), n + f = 9 → Rep l ws → ws.length + f ≤ 100000 → ∃ l', Rep l' (ws ++ sym_Train.winN s p f n) ∧ ∀ R, Ev (fun k => r06_Pieces.l1 k x0 l' x4 x5 s ((p + 1 : Nat) : Int)) R → Ev (fun k => r06_Pieces.l2 k x0 l x4 x5 s (p : Int) (n : Int)) R
  | 0, n, l, ws, hn, h, hw => by
    have HP := Lib.hid (w64_succ p (by omega))
    refine ⟨l, by simpa [sym_Train.winN] using h, fun R hR => ?_⟩
    refine Ev.step (fun k => by rw [r06_Pieces.l2]) ?_
    refine Ev.neg (by omega) ?_
    refine Ev.step (fun k => by rw [r06_Pieces.j4, HP.out]) ?_
    exact Ev.neg (by decide) hR
  | f + 1, n, l, ws, hn, h, hw => by
    have HP := Lib.hid (w64_succ p (by omega))
    have HS := Lib.hid (w64_sub s.size p (by omega) (by omega))
    rw [sym_Train.winN]
    by_cases hle : n ≤ min 8 (s.size - p)
    · rw [if_pos hle]
      obtain ⟨l1, hr1, h1⟩ := pieces_l3 x0 h (by omega) x4 x5 s p n (by omega) hs
      obtain ⟨l2, hr2, h2⟩ := pieces_l2 x0 x4 x5 s hs p hp f (n + 1) l1 (ws ++ [(s.extract p (p + n)).data.toList]) (by omega) hr1 (by simp; omega)
      refine ⟨l2, by simpa using hr2, fun R hR => ?_⟩
      refine Ev.step (fun k => by rw [r06_Pieces.l2, HS.out]) ?_
      refine Ev.pos (by omega) ?_
      rw [decide_eq_true (by omega)]
      refine Ev.step (fun k => by rw [r06_Pieces.j4]) ?_
      exact Ev.pos rfl (h1 R (h2 R hR))
    · rw [if_neg hle]
      refine ⟨l, by simpa using h, fun R hR => ?_⟩
      refine Ev.step (fun k => by rw [r06_Pieces.l2, HS.out]) ?_
      refine Ev.pos (by omega) ?_
      rw [decide_eq_false (by omega)]
      refine Ev.step (fun k => by rw [r06_Pieces.j4, HP.out]) ?_
      exact Ev.neg (by decide) hR
theorem pieces_l1 (x0 : List (List Int)) (x4 : Int) (q : Nat) (hq : q < 1000000) (s : ByteArray) (hs : s.size ≤ 10000) : ∀ (f p : Nat) (l : List S85) (ws : List (List UInt8)), p + f = s.size → Rep l ws → ws.length + 7 * f ≤ 90000 → ∃ l', Rep l' (ws ++ sym_Train.winI s f p) ∧ ∀ R, Ev (fun k => r06_Pieces.l0 k x0 l' x4 ((q + 1 : Nat) : Int)) R → Ev (fun k => r06_Pieces.l1 k x0 l x4 (q : Int) s (p : Int)) R
  | 0, p, l, ws, hf, h, hw => by
    have HQ := Lib.hid (w64_succ q (by omega))
    refine ⟨l, by simpa [sym_Train.winI] using h, fun R hR => ?_⟩
    refine Ev.step (fun k => by rw [r06_Pieces.l1, HQ.out]) ?_
    exact Ev.neg (by omega) hR
  | f + 1, p, l, ws, hf, h, hw => by
    rw [sym_Train.winI, if_pos (by omega)]
    obtain ⟨l1, hr1, h1⟩ := pieces_l2 x0 x4 (q : Int) s hs p (by omega) 7 2 l ws (by omega) h (by omega)
    have hlen := sym_Train.winN_len s p 7 2
    obtain ⟨l2, hr2, h2⟩ := pieces_l1 x0 x4 q hq s hs f (p + 1) l1 (ws ++ sym_Train.winN s p 7 2) (by omega) hr1 (by rw [List.length_append]; omega)
    refine ⟨l2, by simpa using hr2, fun R hR => ?_⟩
    refine Ev.step (fun k => by rw [r06_Pieces.l1]) ?_
    exact Ev.pos (by omega) (h1 R (h2 R hR))
theorem drop_consP {α : Type} {a r : List α} {x : α} {i : Nat} (h : a.drop i = x :: r) : i < a.length ∧ a[i]? = some x ∧ a.drop (i + 1) = r := by
  have hlt : i < a.length := by
    rcases Nat.lt_or_ge i a.length with h1 | h1
    · exact h1
    · rw [List.drop_eq_nil_of_le h1] at h
      cases h
  rw [List.drop_eq_getElem_cons hlt] at h
  injection h with hx hr
  exact ⟨hlt, by rw [List.getElem?_eq_getElem hlt, hx], hr⟩
theorem winL_zero : ∀ l, sym_Train.winL l 0 = []
  | [] => rfl
  | b :: r => by
    have e := sym_Train.cut_size b 0
    have e0 : (sym_Train.cut b 0).size = 0 := by omega
    rw [sym_Train.winL, e0, Nat.zero_sub, winL_zero r]
    rfl
theorem pieces_l0 (x0 : List (List Int)) (hx : x0.length < 1000000) (hx2 : ∀ b ∈ x0, b.length < 1000000000000) : ∀ (r : List (List Int)) (q left : Nat) (l : List S85) (ws : List (List UInt8)), x0.drop q = r → q ≤ x0.length → left ≤ 1024 → Rep l ws → ws.length + 7 * left ≤ 80000 → ∃ l', Rep l' (ws ++ sym_Train.winL r left) ∧ Ev (fun k => r06_Pieces.l0 k x0 l (left : Int) (q : Int)) l'
  | [], q, left, l, ws, hd, hq, hl, h, hw => by
    have h1 : x0.length ≤ q := List.drop_eq_nil_iff.1 hd
    refine ⟨l, by simpa [sym_Train.winL] using h, ?_⟩
    refine Ev.step (fun k => by rw [r06_Pieces.l0]) ?_
    refine Ev.neg (by omega) ?_
    refine Ev.step (fun k => by rw [r06_Pieces.j1]) ?_
    exact Ev.neg (by decide) (Ev.now _)
  | b :: r, q, left, l, ws, hd, hq, hl, h, hw => by
    obtain ⟨hlt, hat, hr⟩ := drop_consP hd
    by_cases h0 : left = 0
    · subst h0
      refine ⟨l, by rw [winL_zero]; simpa using h, ?_⟩
      refine Ev.step (fun k => by rw [r06_Pieces.l0]) ?_
      refine Ev.pos (by omega) ?_
      rw [decide_eq_false (by omega)]
      refine Ev.step (fun k => by rw [r06_Pieces.j1]) ?_
      exact Ev.neg (by decide) (Ev.now _)
    · rw [sym_Train.winL]
      have hsz := sym_Train.cut_size b left
      have hbl := hx2 b (List.mem_of_getElem? hat)
      have hlen := sym_Train.winI_len (sym_Train.cut b left) (sym_Train.cut b left).size 0
      obtain ⟨l1, hr1, h1⟩ := pieces_l1 x0 ((left - (sym_Train.cut b left).size : Nat) : Int) q (by omega) (sym_Train.cut b left) (by omega) (sym_Train.cut b left).size 0 l ws (by omega) h (by omega)
      obtain ⟨l2, hr2, h2⟩ := pieces_l0 x0 hx hx2 r (q + 1) (left - (sym_Train.cut b left).size) l1 _ hr (by omega) (by omega) hr1 (by rw [List.length_append]; omega)
      refine ⟨l2, by simpa using hr2, ?_⟩
      have hrd : rd_L1 x0 (q : Int) = b := by
        unfold rd_L1
        rw [Int.toNat_natCast, List.getD_eq_getElem?_getD, hat]
        rfl
      have hmn : mn (left : Int) (b.length : Int) = ((min left b.length : Nat) : Int) := by unfold mn; split <;> omega
      have HW := Lib.hid (w64_sub left (sym_Train.cut b left).size (by omega) (by omega))
      refine Ev.step (fun k => by rw [r06_Pieces.l0]) ?_
      refine Ev.pos (by omega) ?_
      rw [decide_eq_true (by omega)]
      refine Ev.step (fun k => by rw [r06_Pieces.j1, hrd, hmn, Int.toNat_natCast]) ?_
      refine Ev.pos rfl (Ev.pos (by omega) (Ev.pos (by omega) (Ev.pos (by omega) (Ev.pos (by omega) (Ev.get rfl ?_)))))
      show Ev (fun k => r06_Pieces.l1 k x0 l (wrap64 ((left : Int) - ((sym_Train.cut b left).size : Int))) (q : Int) (sym_Train.cut b left) 0) l2
      rw [HW.out]
      exact h1 l2 h2
theorem piecesR (x0 : List (List Int)) (hx : x0.length < 1000000) (hx2 : ∀ b ∈ x0, b.length < 1000000000000) : ∃ l, Rep l (sym_Train.winL x0 1024) ∧ Ev (fun k => r06_Pieces.f k x0) l := by
  obtain ⟨l, h1, h2⟩ := pieces_l0 x0 hx hx2 x0 0 1024 [] [] rfl (by omega) (by omega) Rep.nil (by simp)
  exact ⟨l, by simpa using h1, h2⟩
def pieceS (p : S85) : ByteArray × Int := (p.f0, ((p.f0.size : Int) - 1) * p.f1)
def wanted (l : List S85) : List (ByteArray × Int) := (l.filter fun p => decide (2 ≤ p.f1)).map pieceS
abbrev ltP : ByteArray × Int → ByteArray × Int → Bool := ltOf sym_Train.cf
theorem wanted_set (l : List S85) (q : Nat) (hq : q < l.length) (h2 : 2 ≤ l[q].f1) (z : S85) (hz : z.f1 = 0) : (wanted l).Perm (pieceS l[q] :: wanted (l.set q z)) := by
  have e1 : l = l.take q ++ l[q] :: l.drop (q + 1) := by rw [← List.drop_eq_getElem_cons hq, List.take_append_drop]
  have e2 : l.set q z = l.take q ++ z :: l.drop (q + 1) := by rw [List.set_eq_take_append_cons_drop, if_pos hq]
  unfold wanted
  rw [e2]
  conv => lhs; rw [e1]
  rw [List.filter_append, List.filter_append, List.filter_cons_of_pos (p := fun p : S85 => decide (2 ≤ p.f1)) (decide_eq_true h2), List.filter_cons_of_neg (p := fun p : S85 => decide (2 ≤ p.f1)) (by rw [hz]; decide), List.map_append, List.map_append, List.map_cons]
  exact List.perm_middle
def small (l : List S85) : Prop := ∀ p ∈ l, p.f0.size ≤ 8 ∧ 0 ≤ p.f1 ∧ p.f1 ≤ 100000
theorem worthR (p : S85) (h : p.f0.size ≤ 8 ∧ 0 ≤ p.f1 ∧ p.f1 ≤ 100000) : r06_worth.f p.f0 p.f1 = some (pieceS p).2 := by
  unfold r06_worth.f pieceS
  have e1 : wrap64 ((p.f0.size : Int) - 1) = (p.f0.size : Int) - 1 := by unfold wrap64; omega
  rw [e1]
  have h1 : -100000 ≤ ((p.f0.size : Int) - 1) * p.f1 ∧ ((p.f0.size : Int) - 1) * p.f1 ≤ 800000 := by
    have : p.f0.size = 0 ∨ p.f0.size = 1 ∨ p.f0.size = 2 ∨ p.f0.size = 3 ∨ p.f0.size = 4 ∨ p.f0.size = 5 ∨ p.f0.size = 6 ∨ p.f0.size = 7 ∨ p.f0.size = 8 := by omega
    rcases this with h2 | h2 | h2 | h2 | h2 | h2 | h2 | h2 | h2 <;> rw [h2] <;> omega
  generalize ((p.f0.size : Int) - 1) * p.f1 = z at *
  have e2 : wrap64 z = z := by unfold wrap64; omega
  rw [e2]
def goodP (l : List S85) (i : Nat) (b : Int) : Prop := (b = -1 ∧ ∀ j (hj : j < l.length), j < i → ¬ 2 ≤ l[j].f1) ∨ ∃ q, ∃ hq : q < l.length, b = (q : Int) ∧ q < i ∧ 2 ≤ l[q].f1 ∧ ∀ j (hj : j < l.length), j < i → 2 ≤ l[j].f1 → ltP (pieceS l[j]) (pieceS l[q]) = false
theorem choose_loop (l : List S85) (hl : l.length < 1000000) (hsm : small l) (T : List ByteArray) : ∀ (d i : Nat) (b : Int), i + d = l.length → goodP l i b → ∃ b', goodP l l.length b' ∧ ∀ R, Ev (fun k => r06_Train.l1 k l T b' (l.length : Int)) R → Ev (fun k => r06_Train.l1 k l T b (i : Int)) R
  | 0, i, b, hi, hg => by
    have e : i = l.length := by omega
    subst e
    exact ⟨b, hg, fun R h => h⟩
  | d + 1, i, b, hi, hg => by
    have hil : i < l.length := by omega
    have hsi := hsm _ (List.getElem_mem hil)
    have HS := Lib.hid (w64_succ i (by omega))
    by_cases h2 : 2 ≤ l[i].f1
    · rcases hg with ⟨rfl, hno⟩ | ⟨q, hq, rfl, hqi, hq2, hbest⟩
      · have hg' : goodP l (i + 1) (i : Int) := .inr ⟨i, hil, rfl, by omega, h2, fun j hj hji hj2 => by
          rcases Nat.lt_or_ge j i with h1 | h1
          · exact absurd hj2 (hno j hj h1)
          · have : j = i := by omega
            subst this
            exact sym_Train.swo.irrefl _⟩
        obtain ⟨b', hb', h⟩ := choose_loop l hl hsm T d (i + 1) i (by omega) hg'
        refine ⟨b', hb', fun R hR => ?_⟩
        refine Ev.step (fun k => by rw [r06_Train.l1, rdT_at l i hil, HS.out]) ?_
        exact Ev.pos (by omega) (Ev.pos (by omega) (Ev.pos h2 (Ev.pos (by omega) (h R hR))))
      · have hsq := hsm _ (List.getElem_mem hq)
        have hlt := sym_Train.lt_iff (pieceS l[i]) (pieceS l[q])
        by_cases hc : ltP (pieceS l[i]) (pieceS l[q]) = true
        · have hg' : goodP l (i + 1) (i : Int) := .inr ⟨i, hil, rfl, by omega, h2, fun j hj hji hj2 => by
            rcases Nat.lt_or_ge j i with h1 | h1
            · cases hx : ltP (pieceS l[j]) (pieceS l[i]) with
              | false => rfl
              | true =>
                have h5 : ltP (pieceS l[j]) (pieceS l[q]) = true := sym_Train.swo.trans _ _ _ hx hc
                rw [hbest j hj h1 hj2] at h5
                cases h5
            · have : j = i := by omega
              subst this
              exact sym_Train.swo.irrefl _⟩
          obtain ⟨b', hb', h⟩ := choose_loop l hl hsm T d (i + 1) i (by omega) hg'
          refine ⟨b', hb', fun R hR => ?_⟩
          refine Ev.step (fun k => by rw [r06_Train.l1, rdT_at l i hil, rdT_at l q hq, HS.out, worthR _ hsi, worthR _ hsq]) ?_
          refine Ev.pos (by omega) (Ev.pos (by omega) (Ev.pos h2 (Ev.neg (by omega) (Ev.get rfl (Ev.pos (by omega) (Ev.pos (by omega) (Ev.get rfl ?_)))))))
          rcases hlt.1 hc with h1 | ⟨h1, h3⟩
          · exact Ev.pos h1 (h R hR)
          · refine Ev.neg (by omega) (Ev.get rfl (Ev.get rfl (Ev.pos h1.symm (Ev.pos ?_ (h R hR)))))
            rw [ba_list, ba_list, Go.Proofs.bytesLess_eq]
            exact decide_eq_true h3
        · have hg' : goodP l (i + 1) (q : Int) := .inr ⟨q, hq, rfl, by omega, hq2, fun j hj hji hj2 => by
            rcases Nat.lt_or_ge j i with h1 | h1
            · exact hbest j hj h1 hj2
            · have : j = i := by omega
              subst this
              simpa using hc⟩
          obtain ⟨b', hb', h⟩ := choose_loop l hl hsm T d (i + 1) q (by omega) hg'
          refine ⟨b', hb', fun R hR => ?_⟩
          refine Ev.step (fun k => by rw [r06_Train.l1, rdT_at l i hil, rdT_at l q hq, HS.out, worthR _ hsi, worthR _ hsq]) ?_
          refine Ev.pos (by omega) (Ev.pos (by omega) (Ev.pos h2 (Ev.neg (by omega) (Ev.get rfl (Ev.pos (by omega) (Ev.pos (by omega) (Ev.get rfl ?_)))))))
          have hc' := fun h => hc (hlt.2 h)
          refine Ev.neg (fun h1 => hc' (.inl h1)) (Ev.get rfl (Ev.get rfl ?_))
          by_cases he : (pieceS l[i]).2 = (pieceS l[q]).2
          · refine Ev.pos he (Ev.neg ?_ (h R hR))
            rw [ba_list, ba_list, Go.Proofs.bytesLess_eq]
            intro h3
            exact hc' (.inr ⟨he.symm, of_decide_eq_true h3⟩)
          · exact Ev.neg he (h R hR)
    · have hg' : goodP l (i + 1) b := by
        rcases hg with ⟨rfl, hno⟩ | ⟨q, hq, rfl, hqi, hq2, hbest⟩
        · refine .inl ⟨rfl, fun j hj hji => ?_⟩
          rcases Nat.lt_or_ge j i with h1 | h1
          · exact hno j hj h1
          · have : j = i := by omega
            subst this
            exact h2
        · refine .inr ⟨q, hq, rfl, by omega, hq2, fun j hj hji hj2 => ?_⟩
          rcases Nat.lt_or_ge j i with h1 | h1
          · exact hbest j hj h1 hj2
          · have : j = i := by omega
            subst this
            exact absurd hj2 h2
      obtain ⟨b', hb', h⟩ := choose_loop l hl hsm T d (i + 1) b (by omega) hg'
      refine ⟨b', hb', fun R hR => ?_⟩
      refine Ev.step (fun k => by rw [r06_Train.l1, rdT_at l i hil, HS.out]) ?_
      exact Ev.pos (by omega) (Ev.pos (by omega) (Ev.neg h2 (h R hR)))
theorem wanted_mem {l : List S85} {x : ByteArray × Int} : x ∈ wanted l ↔ ∃ j, ∃ hj : j < l.length, 2 ≤ l[j].f1 ∧ x = pieceS l[j] := by
  unfold wanted
  rw [List.mem_map]
  constructor
  · rintro ⟨p, hp, rfl⟩
    rw [List.mem_filter, decide_eq_true_iff] at hp
    obtain ⟨j, hj, rfl⟩ := List.getElem_of_mem hp.1
    exact ⟨j, hj, hp.2, rfl⟩
  · rintro ⟨j, hj, h2, rfl⟩
    exact ⟨l[j], List.mem_filter.2 ⟨List.getElem_mem hj, decide_eq_true h2⟩, rfl⟩
theorem train_loop : ∀ (d : Nat) (T : List ByteArray) (S : List (ByteArray × Int)) (l : List S85), T.length + d = 32 → (wanted l).Perm S → S.Pairwise (fun x y => ltP y x = false) → small l → l.length < 1000000 → Ev (fun k => r06_Train.l0 k l T) (T ++ (S.take d).map Prod.fst)
  | 0, T, S, l, hT, hp, hs, hsm, hl => by
    refine Ev.step (fun k => by rw [r06_Train.l0]) ?_
    refine Ev.neg (by omega) ?_
    simpa using Ev.now T
  | d + 1, T, S, l, hT, hp, hs, hsm, hl => by
    obtain ⟨b, hb, hloop⟩ := choose_loop l hl hsm T l.length 0 (-1) (by omega) (.inl ⟨rfl, fun j _ h => absurd h (by omega)⟩)
    refine Ev.step (fun k => by rw [r06_Train.l0]) ?_
    refine Ev.pos (by omega) (hloop _ ?_)
    refine Ev.step (fun k => by rw [r06_Train.l1]) ?_
    refine Ev.neg (by omega) ?_
    rcases hb with ⟨rfl, hno⟩ | ⟨q, hq, rfl, _, hq2, hbest⟩
    · have hw : wanted l = [] := by
        rw [List.eq_nil_iff_forall_not_mem]
        intro x hx
        obtain ⟨j, hj, h2, _⟩ := wanted_mem.1 hx
        exact hno j hj hj h2
      rw [hw] at hp
      have hS : S = [] := hp.symm.eq_nil
      subst hS
      refine Ev.pos (by omega) ?_
      simpa using Ev.now T
    · have hm : pieceS l[q] ∈ S := hp.mem_iff.1 (wanted_mem.2 ⟨q, hq, hq2, rfl⟩)
      cases S with
      | nil => simp at hm
      | cons h S =>
        rw [List.pairwise_cons] at hs
        have he : h = pieceS l[q] := by
          rcases List.mem_cons.1 hm with h1 | h1
          · exact h1.symm
          · have h3 := hs.1 _ h1
            obtain ⟨j, hj, hj2, hje⟩ := wanted_mem.1 (hp.mem_iff.2 (List.mem_cons_self))
            have h4 := hbest j hj hj hj2
            rw [← hje] at h4
            exact sym_Train.parts h (pieceS l[q]) h4 h3
        have hp2 := ((wanted_set l q hq hq2 ⟨l[q].f0, 0⟩ rfl).symm.trans hp)
        rw [he] at hp2
        have hp3 := hp2.cons_inv
        have hsm' : small (l.set q ⟨l[q].f0, 0⟩) := fun p hpm => by
          rcases List.mem_or_eq_of_mem_set hpm with h1 | h1
          · exact hsm p h1
          · subst h1
            exact ⟨(hsm _ (List.getElem_mem hq)).1, Int.le_refl 0, (by decide : (0 : Int) ≤ 100000)⟩
        have ih := train_loop d (T ++ [l[q].f0]) S (l.set q ⟨l[q].f0, 0⟩) (by simp; omega) hp3 hs.2 hsm' (by simpa using hl)
        rw [he, List.take_succ_cons, List.map_cons]
        refine Ev.neg (by omega) (Ev.pos (by omega) (Ev.pos (by omega) (Ev.pos (by omega) ?_)))
        rw [rdT_at l q hq, Int.toNat_natCast]
        simpa [pieceS] using ih
theorem ba_of (s : ByteArray) : (⟨s.data.toList.toArray⟩ : ByteArray) = s := ba_ext rfl
theorem rep_wanted {l : List S85} {ws : List (List UInt8)} (h : Rep l ws) : (wanted l).Perm (sym_Train.pieces ws) := by
  have hk := sym_Train.pieces_perm ws ((l.filter fun p => decide (2 ≤ p.f1)).map txt) (List.Nodup.sublist (List.Sublist.map txt List.filter_sublist) h.nodup) (fun y => by
    constructor
    · intro hy
      obtain ⟨p, hp, rfl⟩ := List.mem_map.1 hy
      rw [List.mem_filter, decide_eq_true_iff] at hp
      have hc := h.cnt p hp.1
      exact ⟨hc.1, by omega⟩
    · rintro ⟨h1, h2⟩
      obtain ⟨p, hp, rfl⟩ := List.mem_map.1 (h.mem y h1)
      have hc := h.cnt p hp
      exact List.mem_map.2 ⟨p, List.mem_filter.2 ⟨hp, decide_eq_true (by omega)⟩, rfl⟩)
  rw [List.map_map] at hk
  have e : wanted l = (l.filter fun p => decide (2 ≤ p.f1)).map (sym_Train.pieceOf ws ∘ txt) := by
    unfold wanted
    refine List.map_congr_left fun p hp => ?_
    have hc := h.cnt p (List.mem_filter.1 hp).1
    show (p.f0, ((p.f0.size : Int) - 1) * p.f1) = (⟨p.f0.data.toList.toArray⟩, ((p.f0.data.toList.length : Int) - 1) * (ws.count (txt p) : Int))
    rw [ba_of, data_length, hc.2]
  rw [e]
  exact hk
theorem sorted_pairs (L : List (ByteArray × Int)) : (L.mergeSort fun x y => !ltP y x).Pairwise fun x y => ltP y x = false := by
  have h : (L.mergeSort fun x y => !ltP y x).Pairwise fun x y => (!ltP y x) = true := by
    refine List.pairwise_mergeSort ?_ ?_ _
    · intro a b c h1 h2
      simp only [Bool.not_eq_true'] at h1 h2 ⊢
      exact sym_Train.swo.ntrans c b a h2 h1
    · intro a b
      cases h : ltP b a with
      | false => simp
      | true => simp [sym_Train.swo.asymmA h]
  exact h.imp (fun h => by simpa using h)
theorem trainR (x0 : List (List Int)) (hx : x0.length < 1000000) (hx2 : ∀ b ∈ x0, b.length < 1000000000000) : Ev (fun k => r06_Train.f k x0) (sym_Train.train (sym_Train.winL x0 1024)) := by
  obtain ⟨l, hr, h⟩ := piecesR x0 hx hx2
  have hwl := sym_Train.winL_len x0 1024
  have hlen := hr.len
  have hsm : small l := fun p hp => by
    have hc := hr.cnt p hp
    have h8 := sym_Train.winL_mem x0 1024 _ hc.1
    have hct : (sym_Train.winL x0 1024).count (txt p) ≤ (sym_Train.winL x0 1024).length := List.count_le_length
    unfold txt at h8
    rw [data_length] at h8
    omega
  unfold r06_Train.f
  refine Ev.bind h ?_
  have h2 := train_loop 32 [] ((sym_Train.pieces (sym_Train.winL x0 1024)).mergeSort fun x y => !ltP y x) l rfl ((rep_wanted hr).trans (List.mergeSort_perm _ _).symm) (sorted_pairs _) hsm (by omega)
  exact h2
theorem trainP (x0 : List (List Int)) (hx : x0.length < 1000000) : sym_Train.f x0 = some (sym_Train.train (sym_Train.winL x0 1024)) := by
  unfold sym_Train.f
  rw [if_pos (by omega)]
theorem winN_two (s : ByteArray) (i : Nat) : ∀ f n y, 2 ≤ n → y ∈ sym_Train.winN s i f n → 2 ≤ y.length
  | 0, _, _, _, h => by simp [sym_Train.winN] at h
  | f + 1, n, y, hn, h => by
    rw [sym_Train.winN] at h
    split at h
    · rename_i hle
      rcases List.mem_cons.1 h with h1 | h1
      · subst h1
        rw [data_length, ByteArray.size_extract]
        omega
      · exact winN_two s i f (n + 1) y (by omega) h1
    · simp at h
theorem winI_two (s : ByteArray) : ∀ f i y, y ∈ sym_Train.winI s f i → 2 ≤ y.length
  | 0, _, _, h => by simp [sym_Train.winI] at h
  | f + 1, i, y, h => by
    rw [sym_Train.winI] at h
    split at h
    · rcases List.mem_append.1 h with h1 | h1
      · exact winN_two s i 7 2 y (by omega) h1
      · exact winI_two s f (i + 1) y h1
    · simp at h
theorem winL_two : ∀ l left y, y ∈ sym_Train.winL l left → 2 ≤ y.length
  | [], _, _, h => by simp [sym_Train.winL] at h
  | b :: r, left, y, h => by
    rw [sym_Train.winL] at h
    rcases List.mem_append.1 h with h1 | h1
    · exact winI_two _ _ _ y h1
    · exact winL_two r _ y h1
theorem train_ok (ws : List (List UInt8)) (h2 : ∀ y ∈ ws, 2 ≤ y.length ∧ y.length ≤ 8) : okT (sym_Train.train ws) := by
  have hperm := List.mergeSort_perm (sym_Train.pieces ws) (fun x y => !(ltOf sym_Train.cf) y x)
  have hpt : (sym_Train.pieces ws).map (fun p => p.1.data.toList) = ws.eraseDups.filter fun y => decide (1 < ws.count y) := by
    unfold sym_Train.pieces
    rw [List.map_map]
    conv => rhs; rw [← List.map_id (ws.eraseDups.filter fun y => decide (1 < ws.count y))]
    rfl
  have hnd : ((sym_Train.pieces ws).map (fun p => p.1.data.toList)).Nodup := by
    rw [hpt]
    exact (sym_Train.nodup_eraseDups _ ws (Nat.le_refl _)).filter _
  have hnd2 : (((sym_Train.pieces ws).mergeSort fun x y => !(ltOf sym_Train.cf) y x).map (fun p => p.1.data.toList)).Nodup := (hperm.map _).nodup_iff.2 hnd
  have hsub : (sym_Train.train ws).map sym_Formed.key = ((((sym_Train.pieces ws).mergeSort fun x y => !(ltOf sym_Train.cf) y x).map (fun p => p.1.data.toList))).take 32 := by
    unfold sym_Train.train
    rw [List.map_map, ← List.map_take]
    rfl
  refine ⟨?_, ?_, ?_⟩
  · unfold sym_Train.train
    rw [List.length_map, List.length_take]
    omega
  · intro s hs
    unfold sym_Train.train at hs
    obtain ⟨p, hp, rfl⟩ := List.mem_map.1 hs
    have hp1 := hperm.mem_iff.1 (List.mem_of_mem_take hp)
    unfold sym_Train.pieces at hp1
    obtain ⟨y, hy, rfl⟩ := List.mem_map.1 hp1
    have hy1 := (List.mem_filter.1 hy).1
    rw [List.mem_eraseDups] at hy1
    have := h2 y hy1
    unfold sym_Train.pieceOf
    rw [← data_length]
    simpa using this
  · rw [hsub]
    exact hnd2.sublist (List.take_sublist _ _)
theorem train_okL (x0 : List (List Int)) : okT (sym_Train.train (sym_Train.winL x0 1024)) :=
  train_ok _ fun y hy => ⟨winL_two x0 1024 y hy, sym_Train.winL_mem x0 1024 y hy⟩
end Law
end Go.Proofs.Ythaifibhflfpkaa.Q
end
section
namespace Go.Proofs.Ythaifibhflfpkaa.Q
open Go.RowKit Go.Proofs.YthaifibhflfpkaaW.PrintWords Go.Proofs.YthaifibhflfpkaaW.PrintLast Go.Proofs.YthaifibhflfpkaaW.PrintMore Go.Proofs.YthaifibhflfpkaaX
attribute [local go_sem] max2_int min2_int max_two min_two max_three min_three max_four min_four   -- for this text's walks alone
set_option linter.unusedVariables false
set_option linter.unusedSimpArgs false
def lz_key.f (l0 : List Int) : Option (Int) := if 0 < (l0.length : Int) then (if 1 < (l0.length : Int) then (if 2 < (l0.length : Int) then (if 3 < (l0.length : Int) then (some (Go.bits .or .u32 (Go.bits .or .u32 (Go.bits .or .u32 ((rd l0 0) % 4294967296) ((((rd l0 1) % 4294967296) * 256) % 4294967296)) ((((rd l0 2) % 4294967296) * 65536) % 4294967296)) ((((rd l0 3) % 4294967296) * 16777216) % 4294967296))) else (none)) else (none)) else (none)) else (none)
set_option maxHeartbeats 8000000 in
set_option maxRecDepth 100000 in
theorem lz_key.calls (A0 : Option Addr) (c0 : Nat) (l0 : List Int) (r : Int) (w : World) (hr0 : Kd.C (Kd.int .u8) w A0 l0.length l0) (hc0 : l0.length ≤ c0) (h : lz_key.f l0 = some r) :
  Calls Try.prog 38 #[.slice A0 l0.length c0] w fun e w' => e = .returned (.int .u32 r) ∧ Drawn0 w w' := by
 have HR0 := aM hr0
 have HC0 := aM hc0
 clear hr0 hc0
 have H : (if 0 < (l0.length : Int) then (if 1 < (l0.length : Int) then (if 2 < (l0.length : Int) then (if 3 < (l0.length : Int) then (some (Go.bits .or .u32 (Go.bits .or .u32 (Go.bits .or .u32 ((rd l0 0) % 4294967296) ((((rd l0 1) % 4294967296) * 256) % 4294967296)) ((((rd l0 2) % 4294967296) * 65536) % 4294967296)) ((((rd l0 3) % 4294967296) * 16777216) % 4294967296))) else (none)) else (none)) else (none)) else (none)) = some r := h
 clear h
 by_cases c2 : 0 < (l0.length : Int)
 ·
  rw [if_pos c2] at H
  have c2b0 : decide (0 < (l0.length : Int)) = true := decide_eq_true c2
  have c2b1 : decide (0 < l0.length) = true := decide_eq_true (by omega)
  clear c2
  by_cases c3 : 1 < (l0.length : Int)
  ·
   rw [if_pos c3] at H
   have c3b0 : decide (1 < (l0.length : Int)) = true := decide_eq_true c3
   have c3b1 : decide (1 < l0.length) = true := decide_eq_true (by omega)
   clear c3
   by_cases c4 : 2 < (l0.length : Int)
   ·
    rw [if_pos c4] at H
    have c4b0 : decide (2 < (l0.length : Int)) = true := decide_eq_true c4
    have c4b1 : decide (2 < l0.length) = true := decide_eq_true (by omega)
    clear c4
    by_cases c5 : 3 < (l0.length : Int)
    ·
     rw [if_pos c5] at H
     have c5b0 : decide (3 < (l0.length : Int)) = true := decide_eq_true c5
     have c5b1 : decide (3 < l0.length) = true := decide_eq_true (by omega)
     clear c5
     obtain rfl := Option.some.inj H
     have p101 : 0 ≤ (0 : Int) := (by omega)
     have q101 : 0 < (l0.length : Int) := of_decide_eq_true (by first | (with_reducible assumption) | assumption)
     obtain ⟨ad101, e101, hx101_0⟩ := Kd.at_int HR0.out 0 p101 q101
     cases e101
     have qi101 : (0 < l0.length) = True := eq_true (by omega)
     (try rw [show ((0 : Int)).toNat = 0 from rfl] at hx101_0)
     (try rw [Addr.add_zero'] at hx101_0)
     replace p101 := eq_true p101
     replace q101 := eq_true q101
     have p102 : 0 ≤ (1 : Int) := (by omega)
     have q102 : 1 < (l0.length : Int) := of_decide_eq_true (by first | (with_reducible assumption) | assumption)
     obtain ⟨ad102, e102, hx102_0⟩ := Kd.at_int HR0.out 1 p102 q102
     obtain rfl : ad101 = ad102 := (by injection e102)
     (try simp only [show (1 : Int).toNat = 1 from rfl, Nat.reduceMul, Nat.reduceEqDiff, Go.Addr.add, ↓reduceIte] at hx102_0)
     have qi102 : (1 < l0.length) = True := eq_true (by omega)
     (try rw [show ((1 : Int)).toNat = 1 from rfl] at hx102_0)
     replace p102 := eq_true p102
     replace q102 := eq_true q102
     have p103 : 0 ≤ (2 : Int) := (by omega)
     have q103 : 2 < (l0.length : Int) := of_decide_eq_true (by first | (with_reducible assumption) | assumption)
     obtain ⟨ad103, e103, hx103_0⟩ := Kd.at_int HR0.out 2 p103 q103
     obtain rfl : ad101 = ad103 := (by injection e103)
     (try simp only [show (2 : Int).toNat = 2 from rfl, Nat.reduceMul, Nat.reduceEqDiff, Go.Addr.add, ↓reduceIte] at hx103_0)
     have qi103 : (2 < l0.length) = True := eq_true (by omega)
     (try rw [show ((2 : Int)).toNat = 2 from rfl] at hx103_0)
     replace p103 := eq_true p103
     replace q103 := eq_true q103
     have p104 : 0 ≤ (3 : Int) := (by omega)
     have q104 : 3 < (l0.length : Int) := of_decide_eq_true (by first | (with_reducible assumption) | assumption)
     obtain ⟨ad104, e104, hx104_0⟩ := Kd.at_int HR0.out 3 p104 q104
     obtain rfl : ad101 = ad104 := (by injection e104)
     (try simp only [show (3 : Int).toNat = 3 from rfl, Nat.reduceMul, Nat.reduceEqDiff, Go.Addr.add, ↓reduceIte] at hx104_0)
     have qi104 : (3 < l0.length) = True := eq_true (by omega)
     (try rw [show ((3 : Int)).toNat = 3 from rfl] at hx104_0)
     replace p104 := eq_true p104
     replace q104 := eq_true q104
     go_enter Try.func38, Try.ntmps38
     go_wp2
     repeat (go_quiet (fail); try go_wp2)
     go_ret
     exact ⟨by first | rfl | (simp; done) | (simp [*]; done), by repeat (first | exact Drawn0.refl _ | apply Drawn0.step)⟩
    ·
     rw [if_neg c5] at H
     exact absurd H (by simp)
   ·
    rw [if_neg c4] at H
    exact absurd H (by simp)
  ·
   rw [if_neg c3] at H
   exact absurd H (by simp)
 ·
  rw [if_neg c2] at H
  exact absurd H (by simp)
def lz_lay.l0 : Nat → List Int → Int → Option (List Int)
 | 0, _, _ => none
 | k + 1, x0, x1 => if x1 ≥ 255 then (if x0.length < 140737488355328 then (lz_lay.l0 k (x0 ++ [255]) (wrap64 (x1 - 255))) else (none)) else (if x0.length < 140737488355328 then (some (x0 ++ [(x1) % 256])) else (none))
def lz_lay.f (k : Nat) (l0 : List Int) (a1 : Int) : Option (List Int) := lz_lay.l0 k l0 a1
set_option maxHeartbeats 8000000 in
set_option maxRecDepth 100000 in
theorem lz_lay.calls (k : Nat) (P0_ : Nat → Prop) (u9000_ : Value) (l0 : List Int) (a1 : Int) (r : List Int) (w0 w : World) (hB : Below w0.heap.size w0 w) (ho0 : Kd.R (Kd.int .u8) 5 w w0.heap.size P0_ u9000_ l0) (h : lz_lay.f k l0 a1 = some r) :
  Calls Try.prog 40 #[u9000_, .int .i64 a1] w fun e w' => ∃ v0_ : Value, e = .returned (v0_) ∧ Kd.R (Kd.int .u8) 5 w' w0.heap.size (fun k_ => (P0_ k_ ∨ w.heap.size ≤ k_)) v0_ r ∧ Below w0.heap.size w0 w' ∧ Kept w w' (fun k_ => P0_ k_) := by
 have HO0 := aM (show Kd.R (Kd.int .u8) 5 w w0.heap.size (fun k_ => (P0_ k_ ∨ w.heap.size ≤ k_)) u9000_ l0 from Kd.R_mono ho0 (fun k_ hk => (.inl hk)))
 have HK := aM (Kept.refl w (fun k_ => P0_ k_))
 have HW0 := aM hB.size
 have HB := aM hB
 clear hB
 have H : (lz_lay.l0 k l0 a1) = some r := h
 clear h
 have H' := aM H
 clear H
 go_enter Try.func40, Try.ntmps40
 go_wp2
 go_loopg [0, 1] k (fun kq v0 v1 w' => ∃ (x0_1 : List Int) (x1_1 : Int), v1 = .int .i64 x1_1 ∧ Aside0 (lz_lay.l0 kq x0_1 x1_1 = some r) ∧ Aside0 (kq ≤ k) ∧ Aside0 (Kd.R (Kd.int .u8) 5 w' w0.heap.size (fun k_ => (P0_ k_ ∨ w.heap.size ≤ k_)) v0 x0_1) ∧ Aside0 (Kept w w' (fun k_ => P0_ k_)) ∧ Aside0 (Below w0.heap.size w0 w'))
 case atStart => exact ⟨(l0), (a1), (by first | rfl | (simp; done) | (simp [*]; done)), H', ⟨Nat.le_refl _⟩, ⟨by (with_reducible repeat (first | apply Kd.R_alloc | apply Kd.R_drewN | apply Kd.R_drew)); exact HO0.out⟩, ⟨by repeat (first | (with_reducible first | exact HK.out | apply Kept.alloc | apply Kept.drewN | apply Kept.drew) | exact HK.out)⟩, ⟨xB HB.out⟩⟩
 case round =>
  clear H'
  try clear p2
  obtain ⟨x0_1, x1_1, rfl, HA, HK1, HO_0, HK, HB⟩ := hrel
  cases gk with
  | zero => exact absurd HA.out (by simp [lz_lay.l0])
  | succ k1 =>
   have H := HA.out
   clear HA
   simp only [lz_lay.l0] at H
   by_cases c3 : x1_1 ≥ 255
   ·
    rw [if_pos c3] at H
    have c3b0 : decide (255 ≤ x1_1) = true := decide_eq_true c3
    clear c3
    by_cases c4 : x0_1.length < 140737488355328
    ·
     rw [if_pos c4] at H
     have LMc4 := aM c4
     clear c4
     obtain ⟨y105, hy105⟩ : ∃ y_ : List Int, y_ = (x0_1 ++ [255]) := ⟨_, rfl⟩
     replace H : (lz_lay.l0 k1 y105 (wrap64 (x1_1 - 255))) = some r := by first | (rw [hy105]; with_reducible exact H) | (have H2_ := (Option.bind_some _ _).symm.trans H; rw [hy105]; with_reducible exact H2_) | (have H2_ := (Option.bind_some _ _).symm.trans H; with_reducible exact H2_) | with_reducible exact H | (rw [hy105]; exact H) | exact H
     have Ny105 := aM hy105
     clear hy105
     have H' := aM H
     clear H
     go_wp2_with (first | ((with_reducible refine gate_builtin (b := .append) (xs := #[.tmp 9, .tmp 10]) rfl ?_); at_builtin; refine Kd.R_append (Kd.int .u8) (w0 := w0) w0.heap.size rfl (.tmp 9) (.tmp 10) 22 5 (.int .u8 0) 1 rfl Try.underlying22 info5 rfl (by decide) (by omega) u0 x0_1 255 [.int .u8 255] (fun k_ => (P0_ k_ ∨ w.heap.size ≤ k_)) (fun _ => False) rfl rfl ?aP (fun _ hk => hk.elim) ?aF ?aO ?aB ?aS ?aL ?_; (case aP => exact rfl); (case aB => exact (xB HB.out)); (case aF => exact (fun k_ hk => (.inr (Nat.le_trans (by first | exact HK.out.1 | exact (show Kept w _ (fun k_ => P0_ k_) from by repeat (first | (with_reducible first | exact HK.out | apply Kept.alloc | apply Kept.drewN | apply Kept.drew) | exact HK.out)).1) hk)))); (case aO => exact (xR HO_0.out)); (case aS => exact (below_size (xB HB.out))); (case aL => have := LMc4.out; omega); intro v106 w5 ho hb hg hat; rw [← Ny105.out] at ho; have n0_ := aM (hb); have n1_ := aM (Kept.of_grown (S := (fun k_ => P0_ k_)) hg (by repeat (first | (with_reducible first | exact HK.out | apply Kept.alloc | apply Kept.drewN | apply Kept.drew) | exact HK.out)) (fun k_ e_ => (HO_0.out.1 k_ e_))); have n2_ := aM (ho); clear HB; clear HK; clear HO_0; have HB := n0_; have HK := n1_; have HO107 := n2_; clear n0_ n1_ n2_; clear ho hb hg hat))
     go_roundg k1
     case measure => have := HK1.out; omega
     case rel => exact ⟨(y105), (wrap64 (x1_1 - 255)), (by first | rfl | (simp; done) | (simp [*]; done)), H', ⟨by have := HK1.out; omega⟩, ⟨by (with_reducible repeat (first | apply Kd.R_alloc | apply Kd.R_drewN | apply Kd.R_drew)); exact HO107.out⟩, ⟨by repeat (first | (with_reducible first | exact HK.out | apply Kept.alloc | apply Kept.drewN | apply Kept.drew) | exact HK.out)⟩, ⟨xB HB.out⟩⟩
    ·
     rw [if_neg c4] at H
     exact absurd H (by simp)
   ·
    rw [if_neg c3] at H
    have c3b0 : decide (255 ≤ x1_1) = false := decide_eq_false c3
    clear c3
    by_cases c6 : x0_1.length < 140737488355328
    ·
     rw [if_pos c6] at H
     have LMc6 := aM c6
     clear c6
     obtain ⟨y108, hy108⟩ : ∃ y_ : List Int, y_ = (x0_1 ++ [(x1_1) % 256]) := ⟨_, rfl⟩
     replace H : (some y108) = some r := by first | (rw [hy108]; with_reducible exact H) | (have H2_ := (Option.bind_some _ _).symm.trans H; rw [hy108]; with_reducible exact H2_) | (have H2_ := (Option.bind_some _ _).symm.trans H; with_reducible exact H2_) | with_reducible exact H | (rw [hy108]; exact H) | exact H
     have Ny108 := aM hy108
     clear hy108
     obtain rfl := Option.some.inj H
     go_wp2_with (first | ((with_reducible refine gate_builtin (b := .append) (xs := #[.tmp 12, .tmp 15]) rfl ?_); at_builtin; refine Kd.R_append (Kd.int .u8) (w0 := w0) w0.heap.size rfl (.tmp 12) (.tmp 15) 22 5 (.int .u8 0) 1 rfl Try.underlying22 info5 rfl (by decide) (by omega) u0 x0_1 ((x1_1) % 256) [.int .u8 ((x1_1) % 256)] (fun k_ => (P0_ k_ ∨ w.heap.size ≤ k_)) (fun _ => False) rfl rfl ?aP (fun _ hk => hk.elim) ?aF ?aO ?aB ?aS ?aL ?_; (case aP => exact rfl); (case aB => exact (xB HB.out)); (case aF => exact (fun k_ hk => (.inr (Nat.le_trans (by first | exact HK.out.1 | exact (show Kept w _ (fun k_ => P0_ k_) from by repeat (first | (with_reducible first | exact HK.out | apply Kept.alloc | apply Kept.drewN | apply Kept.drew) | exact HK.out)).1) hk)))); (case aO => exact (xR HO_0.out)); (case aS => exact (below_size (xB HB.out))); (case aL => have := LMc6.out; omega); intro v109 w7 ho hb hg hat; rw [← Ny108.out] at ho; have n0_ := aM (hb); have n1_ := aM (Kept.of_grown (S := (fun k_ => P0_ k_)) hg (by repeat (first | (with_reducible first | exact HK.out | apply Kept.alloc | apply Kept.drewN | apply Kept.drew) | exact HK.out)) (fun k_ e_ => (HO_0.out.1 k_ e_))); have n2_ := aM (ho); clear HB; clear HK; clear HO_0; have HB := n0_; have HK := n1_; have HO110 := n2_; clear n0_ n1_ n2_; clear ho hb hg hat))
     go_ret
     exact ⟨_, by first | rfl | (simp [errW_none, errW_some] <;> rfl) | (simp [*, errW_none, errW_some] <;> rfl), by (with_reducible repeat (first | apply Kd.R_alloc | apply Kd.R_drewN | apply Kd.R_drew)); exact HO110.out, xB HB.out, by repeat (first | (with_reducible first | exact HK.out | apply Kept.alloc | apply Kept.drewN | apply Kept.drew) | exact HK.out)⟩
    ·
     rw [if_neg c6] at H
     exact absurd H (by simp)
def lz_literals.f (k : Nat) (l0 : List Int) (l1 : List Int) (a2 : Int) : Option (List Int) := if l0.length < 140737488355328 then ((some (l0 ++ [(Go.bits .or .i64 ((mn (l1.length : Int) 15) * 16) (mn a2 15)) % 256] : List Int)).bind fun y111 => (if (mn (l1.length : Int) 15) = 15 then ((lz_lay.f k y111 (wrap64 ((l1.length : Int) - 15))).bind fun t114 => (if t114.length + l1.length < 140737488355328 then (some (t114 ++ l1)) else (none))) else (if y111.length + l1.length < 140737488355328 then (some (y111 ++ l1)) else (none)))) else (none)
set_option maxHeartbeats 8000000 in
set_option maxRecDepth 100000 in
theorem lz_literals.calls (k : Nat) (P0_ : Nat → Prop) (u9000_ : Value) (l0 : List Int) (A1 : Option Addr) (c1 : Nat) (l1 : List Int) (a2 : Int) (r : List Int) (w0 w : World) (hB : Below w0.heap.size w0 w) (ho0 : Kd.R (Kd.int .u8) 5 w w0.heap.size P0_ u9000_ l0) (hr1 : ∀ W_, Kept w W_ (fun k_ => P0_ k_) → Kd.C (Kd.int .u8) W_ A1 l1.length l1) (hc1 : l1.length ≤ c1) (h : lz_literals.f k l0 l1 a2 = some r) :
  Calls Try.prog 39 #[u9000_, .slice A1 l1.length c1, .int .i64 a2] w fun e w' => ∃ v0_ : Value, e = .returned (v0_) ∧ Kd.R (Kd.int .u8) 5 w' w0.heap.size (fun k_ => (P0_ k_ ∨ w.heap.size ≤ k_)) v0_ r ∧ Below w0.heap.size w0 w' ∧ Kept w w' (fun k_ => P0_ k_) := by
 have HO0 := aM (show Kd.R (Kd.int .u8) 5 w w0.heap.size (fun k_ => (P0_ k_ ∨ w.heap.size ≤ k_)) u9000_ l0 from Kd.R_mono ho0 (fun k_ hk => (.inl hk)))
 have HR1 := aM hr1
 have HC1 := aM hc1
 clear hr1 hc1
 have HK := aM (Kept.refl w (fun k_ => P0_ k_))
 have HW0 := aM hB.size
 have HB := aM hB
 clear hB
 have H : (if l0.length < 140737488355328 then ((some (l0 ++ [(Go.bits .or .i64 ((mn (l1.length : Int) 15) * 16) (mn a2 15)) % 256] : List Int)).bind fun y111 => (if (mn (l1.length : Int) 15) = 15 then ((lz_lay.f k y111 (wrap64 ((l1.length : Int) - 15))).bind fun t114 => (if t114.length + l1.length < 140737488355328 then (some (t114 ++ l1)) else (none))) else (if y111.length + l1.length < 140737488355328 then (some (y111 ++ l1)) else (none)))) else (none)) = some r := h
 clear h
 obtain ⟨ji4, hji4⟩ : ∃ j_ : Int, (mn (l1.length : Int) 15) = j_ := ⟨_, rfl⟩
 replace H : (if l0.length < 140737488355328 then ((some (l0 ++ [(Go.bits .or .i64 ((ji4) * 16) (mn a2 15)) % 256] : List Int)).bind fun y111 => (if (ji4) = 15 then ((lz_lay.f k y111 (wrap64 ((l1.length : Int) - 15))).bind fun t114 => (if t114.length + l1.length < 140737488355328 then (some (t114 ++ l1)) else (none))) else (if y111.length + l1.length < 140737488355328 then (some (y111 ++ l1)) else (none)))) else (none)) = some r := by first | (rw [hji4] at H; exact H) | (simp only [hji4] at H ⊢; exact H)
 (try (have hji4h : ji4 ≤ 15 := by (rw [← hji4]; unfold mn; (repeat' split) <;> omega)))
 (try (have hji4g : ji4 ≤ 64 := by omega))
 (try (have hji4l : 0 ≤ ji4 := by (rw [← hji4]; unfold mn; (repeat' split) <;> omega)))
 (try (have hji4m : 0 ≤ ji4 := by omega))
 have hji4_ : (if 15 < (l1.length : Int) then 15 else (l1.length : Int)) = ji4 := hji4
 obtain ⟨ji5, hji5⟩ : ∃ j_ : Int, (mn a2 15) = j_ := ⟨_, rfl⟩
 replace H : (if l0.length < 140737488355328 then ((some (l0 ++ [(Go.bits .or .i64 ((ji4) * 16) (ji5)) % 256] : List Int)).bind fun y111 => (if (ji4) = 15 then ((lz_lay.f k y111 (wrap64 ((l1.length : Int) - 15))).bind fun t114 => (if t114.length + l1.length < 140737488355328 then (some (t114 ++ l1)) else (none))) else (if y111.length + l1.length < 140737488355328 then (some (y111 ++ l1)) else (none)))) else (none)) = some r := by first | (rw [hji5] at H; exact H) | (simp only [hji5] at H ⊢; exact H)
 (try (have hji5h : ji5 ≤ 15 := by (rw [← hji5]; unfold mn; (repeat' split) <;> omega)))
 (try (have hji5g : ji5 ≤ 64 := by omega))
 have hji5_ : (if 15 < a2 then 15 else a2) = ji5 := hji5
 by_cases c6 : l0.length < 140737488355328
 ·
  rw [if_pos c6] at H
  have LMc6 := aM c6
  clear c6
  obtain ⟨y111, hy111⟩ : ∃ y_ : List Int, y_ = (l0 ++ [(Go.bits .or .i64 ((ji4) * 16) (ji5)) % 256]) := ⟨_, rfl⟩
  replace H : (if (ji4) = 15 then ((lz_lay.f k y111 (wrap64 ((l1.length : Int) - 15))).bind fun t114 => (if t114.length + l1.length < 140737488355328 then (some (t114 ++ l1)) else (none))) else (if y111.length + l1.length < 140737488355328 then (some (y111 ++ l1)) else (none))) = some r := by first | (rw [hy111]; with_reducible exact H) | (have H2_ := (Option.bind_some _ _).symm.trans H; rw [hy111]; with_reducible exact H2_) | (have H2_ := (Option.bind_some _ _).symm.trans H; with_reducible exact H2_) | with_reducible exact H | (rw [hy111]; exact H) | exact H
  have Ny111 := aM hy111
  clear hy111
  by_cases c7 : (ji4) = 15
  ·
   rw [if_pos c7] at H
   have c7b0 : ((ji4) == 15) = true := beq_iff_eq.mpr c7
   have c7b1 : ((ji4) != 15) = false := bne_eq_false_iff_eq.mpr c7
   clear c7
   replace H := Option.bind_eq_some_iff.mp H
   obtain ⟨t114, A80, H⟩ := H
   replace H : (if t114.length + l1.length < 140737488355328 then (some (t114 ++ l1)) else (none)) = some r := H
   have A8 := aM A80
   clear A80
   by_cases c9 : t114.length + l1.length < 140737488355328
   ·
    rw [if_pos c9] at H
    have LMc9 := aM c9
    clear c9
    obtain ⟨y117, hy117⟩ : ∃ y_ : List Int, y_ = (t114 ++ l1) := ⟨_, rfl⟩
    replace H : (some y117) = some r := by first | (rw [hy117]; with_reducible exact H) | (have H2_ := (Option.bind_some _ _).symm.trans H; rw [hy117]; with_reducible exact H2_) | (have H2_ := (Option.bind_some _ _).symm.trans H; with_reducible exact H2_) | with_reducible exact H | (rw [hy117]; exact H) | exact H
    have Ny117 := aM hy117
    clear hy117
    obtain rfl := Option.some.inj H
    go_enter Try.func39, Try.ntmps39
    go_wp2_with (first | ((with_reducible refine gate_builtin (b := .append) (xs := #[.tmp 11, .tmp 18]) rfl ?_); at_builtin; refine Kd.R_append (Kd.int .u8) (w0 := w0) w0.heap.size rfl (.tmp 11) (.tmp 18) 22 5 (.int .u8 0) 1 rfl Try.underlying22 info5 rfl (by decide) (by omega) u9000_ l0 ((Go.bits .or .i64 ((ji4) * 16) (ji5)) % 256) [.int .u8 ((Go.bits .or .i64 ((ji4) * 16) (ji5)) % 256)] (fun k_ => (P0_ k_ ∨ w.heap.size ≤ k_)) (fun _ => False) rfl rfl ?aP (fun _ hk => hk.elim) ?aF ?aO ?aB ?aS ?aL ?_; (case aP => exact rfl); (case aB => exact (xB HB.out)); (case aF => exact (fun k_ hk => (.inr (Nat.le_trans (by first | exact HK.out.1 | exact (show Kept w _ (fun k_ => P0_ k_) from by repeat (first | (with_reducible first | exact HK.out | apply Kept.alloc | apply Kept.drewN | apply Kept.drew) | exact HK.out)).1) hk)))); (case aO => exact (xR HO0.out)); (case aS => exact (below_size (xB HB.out))); (case aL => have := LMc6.out; omega); intro v112 w10 ho hb hg hat; rw [← Ny111.out] at ho; have n0_ := aM (hb); have n1_ := aM (Kept.of_grown (S := (fun k_ => P0_ k_)) hg (by repeat (first | (with_reducible first | exact HK.out | apply Kept.alloc | apply Kept.drewN | apply Kept.drew) | exact HK.out)) (fun k_ e_ => (HO0.out.1 k_ e_))); have n2_ := aM (ho); clear HB; clear HK; clear HO0; have HB := n0_; have HK := n1_; have HO113 := n2_; clear n0_ n1_ n2_; clear ho hb hg hat; obtain ⟨Ao11, co11, eo11⟩ := Kd.R_slice HO113.out; subst eo11) | ((with_reducible refine gate_callee (f := 40) rfl ?_); refine goesL_ (some 26) rfl rfl Try.func40 (by kernel_rfl) rfl #[.slice Ao11 y111.length co11, .int .i64 (wrap64 ((l1.length : Int) - 15))] rfl (by (try simp only [List.map_toArray, List.map_cons, List.map_nil]); first | done | rfl | (simp only [List.length_drop, List.length_take]; rfl)) ?_; (with_reducible refine (lz_lay.calls k (fun k_ => some k_ = (.slice Ao11 y111.length co11 : Value).ownBlock) (.slice Ao11 y111.length co11) y111 (wrap64 ((l1.length : Int) - 15)) t114 w0 _ ?side1 ?side2 A8.out).mono ?_); (case side1 => repeat (first | (with_reducible first | exact HB.out | apply below_alloc | apply pw_below_drewN | apply below_drew1) | exact HB.out)); (case side2 => exact Kd.R_tight rfl HO113.out); rintro e w12 ⟨v115, rfl, ho0, hb, hkp⟩; refine ⟨_, rfl, ?_⟩; have n0_ := aM (Kd.R_mono (ok' := fun k_ => (P0_ k_ ∨ w.heap.size ≤ k_)) ho0 (fun k_ hk_ => Or.elim hk_ (fun hs_ => (HO113.out.1 k_ (hs_).symm)) (fun hn_ => (.inr (Nat.le_trans (by first | exact HK.out.1 | exact (show Kept w _ (fun k_ => P0_ k_) from by repeat (first | (with_reducible first | exact HK.out | apply Kept.alloc | apply Kept.drewN | apply Kept.drew) | exact HK.out)).1) hn_))))); have n1_ := aM (Kept.then_ (S := (fun k_ => P0_ k_)) (by repeat (first | (with_reducible first | exact HK.out | apply Kept.alloc | apply Kept.drewN | apply Kept.drew) | exact HK.out)) hkp (fun k_ hs_ => (fun e_ => (HO113.out.1 k_ e_.symm)) hs_)); have n2_ := aM (hb); clear HK; clear HB; clear HO113; have HO116 := n0_; have HK := n1_; have HB := n2_; clear n0_ n1_ n2_; (try clear hb); (try clear hkp); (try clear ho0)) | ((with_reducible refine gate_builtin (b := .append) (xs := #[.tmp 27, .tmp 28]) rfl ?_); at_builtin; refine Kd.R_append_rows (Kd.int .u8) (w0 := w0) w0.heap.size rfl (.tmp 27) (.tmp 28) 22 5 (.int .u8 0) 1 rfl Try.underlying22 info5 rfl (by decide) (by omega) v115 t114 l1 _ _ _ (fun k_ => (P0_ k_ ∨ w.heap.size ≤ k_)) (fun _ => False) rfl rfl ?aO ?aR (fun _ _ h => h) (fun _ h => h.elim) ?aF ?aB ?aS ?aL ?_; (case aR => exact Kd.C_kept_now HR1.out (by repeat (first | (with_reducible first | exact HK.out | apply Kept.alloc | apply Kept.drewN | apply Kept.drew) | exact HK.out))); (case aB => exact (xB HB.out)); (case aF => exact (fun k_ hk => (.inr (Nat.le_trans (by first | exact HK.out.1 | exact (show Kept w _ (fun k_ => P0_ k_) from by repeat (first | (with_reducible first | exact HK.out | apply Kept.alloc | apply Kept.drewN | apply Kept.drew) | exact HK.out)).1) hk)))); (case aO => exact (xR HO116.out)); (case aS => exact (below_size (xB HB.out))); (case aL => have := LMc9.out; omega); intro v118 w13 ho hb hg hat; rw [← Ny117.out] at ho; have n0_ := aM (hb); have n1_ := aM (Kept.of_grown (S := (fun k_ => P0_ k_)) hg (by repeat (first | (with_reducible first | exact HK.out | apply Kept.alloc | apply Kept.drewN | apply Kept.drew) | exact HK.out)) (fun k_ e_ => (HO116.out.1 k_ e_))); have n2_ := aM (ho); clear HB; clear HK; clear HO116; have HB := n0_; have HK := n1_; have HO119 := n2_; clear n0_ n1_ n2_; clear ho hb hg hat))
    go_ret
    exact ⟨_, by first | rfl | (simp [errW_none, errW_some] <;> rfl) | (simp only [← hji4, ← hji5]; first | rfl | (simp [errW_none, errW_some] <;> rfl)) | (simp [*, errW_none, errW_some] <;> rfl), by (with_reducible repeat (first | apply Kd.R_alloc | apply Kd.R_drewN | apply Kd.R_drew)); exact HO119.out, xB HB.out, by repeat (first | (with_reducible first | exact HK.out | apply Kept.alloc | apply Kept.drewN | apply Kept.drew) | exact HK.out)⟩
   ·
    rw [if_neg c9] at H
    exact absurd H (by simp)
  ·
   rw [if_neg c7] at H
   have c7b0 : ((ji4) == 15) = false := beq_eq_false_iff_ne.mpr c7
   have c7b1 : ((ji4) != 15) = true := bne_iff_ne.mpr c7
   clear c7
   by_cases c14 : y111.length + l1.length < 140737488355328
   ·
    rw [if_pos c14] at H
    have LMc14 := aM c14
    clear c14
    obtain ⟨y120, hy120⟩ : ∃ y_ : List Int, y_ = (y111 ++ l1) := ⟨_, rfl⟩
    replace H : (some y120) = some r := by first | (rw [hy120]; with_reducible exact H) | (have H2_ := (Option.bind_some _ _).symm.trans H; rw [hy120]; with_reducible exact H2_) | (have H2_ := (Option.bind_some _ _).symm.trans H; with_reducible exact H2_) | with_reducible exact H | (rw [hy120]; exact H) | exact H
    have Ny120 := aM hy120
    clear hy120
    obtain rfl := Option.some.inj H
    go_enter Try.func39, Try.ntmps39
    go_wp2_with (first | ((with_reducible refine gate_builtin (b := .append) (xs := #[.tmp 11, .tmp 18]) rfl ?_); at_builtin; refine Kd.R_append (Kd.int .u8) (w0 := w0) w0.heap.size rfl (.tmp 11) (.tmp 18) 22 5 (.int .u8 0) 1 rfl Try.underlying22 info5 rfl (by decide) (by omega) u9000_ l0 ((Go.bits .or .i64 ((ji4) * 16) (ji5)) % 256) [.int .u8 ((Go.bits .or .i64 ((ji4) * 16) (ji5)) % 256)] (fun k_ => (P0_ k_ ∨ w.heap.size ≤ k_)) (fun _ => False) rfl rfl ?aP (fun _ hk => hk.elim) ?aF ?aO ?aB ?aS ?aL ?_; (case aP => exact rfl); (case aB => exact (xB HB.out)); (case aF => exact (fun k_ hk => (.inr (Nat.le_trans (by first | exact HK.out.1 | exact (show Kept w _ (fun k_ => P0_ k_) from by repeat (first | (with_reducible first | exact HK.out | apply Kept.alloc | apply Kept.drewN | apply Kept.drew) | exact HK.out)).1) hk)))); (case aO => exact (xR HO0.out)); (case aS => exact (below_size (xB HB.out))); (case aL => have := LMc6.out; omega); intro v112 w15 ho hb hg hat; rw [← Ny111.out] at ho; have n0_ := aM (hb); have n1_ := aM (Kept.of_grown (S := (fun k_ => P0_ k_)) hg (by repeat (first | (with_reducible first | exact HK.out | apply Kept.alloc | apply Kept.drewN | apply Kept.drew) | exact HK.out)) (fun k_ e_ => (HO0.out.1 k_ e_))); have n2_ := aM (ho); clear HB; clear HK; clear HO0; have HB := n0_; have HK := n1_; have HO113 := n2_; clear n0_ n1_ n2_; clear ho hb hg hat) | ((with_reducible refine gate_builtin (b := .append) (xs := #[.tmp 27, .tmp 28]) rfl ?_); at_builtin; refine Kd.R_append_rows (Kd.int .u8) (w0 := w0) w0.heap.size rfl (.tmp 27) (.tmp 28) 22 5 (.int .u8 0) 1 rfl Try.underlying22 info5 rfl (by decide) (by omega) v112 y111 l1 _ _ _ (fun k_ => (P0_ k_ ∨ w.heap.size ≤ k_)) (fun _ => False) rfl rfl ?aO ?aR (fun _ _ h => h) (fun _ h => h.elim) ?aF ?aB ?aS ?aL ?_; (case aR => exact Kd.C_kept_now HR1.out (by repeat (first | (with_reducible first | exact HK.out | apply Kept.alloc | apply Kept.drewN | apply Kept.drew) | exact HK.out))); (case aB => exact (xB HB.out)); (case aF => exact (fun k_ hk => (.inr (Nat.le_trans (by first | exact HK.out.1 | exact (show Kept w _ (fun k_ => P0_ k_) from by repeat (first | (with_reducible first | exact HK.out | apply Kept.alloc | apply Kept.drewN | apply Kept.drew) | exact HK.out)).1) hk)))); (case aO => exact (xR HO113.out)); (case aS => exact (below_size (xB HB.out))); (case aL => have := LMc14.out; omega); intro v121 w16 ho hb hg hat; rw [← Ny120.out] at ho; have n0_ := aM (hb); have n1_ := aM (Kept.of_grown (S := (fun k_ => P0_ k_)) hg (by repeat (first | (with_reducible first | exact HK.out | apply Kept.alloc | apply Kept.drewN | apply Kept.drew) | exact HK.out)) (fun k_ e_ => (HO113.out.1 k_ e_))); have n2_ := aM (ho); clear HB; clear HK; clear HO113; have HB := n0_; have HK := n1_; have HO122 := n2_; clear n0_ n1_ n2_; clear ho hb hg hat))
    go_ret
    exact ⟨_, by first | rfl | (simp [errW_none, errW_some] <;> rfl) | (simp only [← hji4, ← hji5]; first | rfl | (simp [errW_none, errW_some] <;> rfl)) | (simp [*, errW_none, errW_some] <;> rfl), by (with_reducible repeat (first | apply Kd.R_alloc | apply Kd.R_drewN | apply Kd.R_drew)); exact HO122.out, xB HB.out, by repeat (first | (with_reducible first | exact HK.out | apply Kept.alloc | apply Kept.drewN | apply Kept.drew) | exact HK.out)⟩
   ·
    rw [if_neg c14] at H
    exact absurd H (by simp)
 ·
  rw [if_neg c6] at H
  exact absurd H (by simp)
def lz_Pack.layT (n : Nat) : List Int := List.replicate (n / 255) 255 ++ [((n % 255 : Nat) : Int)]
def lz_Pack.litT (lits : List Int) (m : Nat) : List Int := ((16 * min lits.length 15 + min m 15 : Nat) : Int) :: ((if 15 ≤ lits.length then lz_Pack.layT (lits.length - 15) else []) ++ lits)
def lz_Pack.keyAt (l : List Int) (i : Nat) : Int := (lz_key.f (l.drop i)).getD 0
def lz_Pack.lastAt (l : List Int) : Nat → Int → Option Int
 | 0 => fun _ => none
 | n + 1 => upd (lz_Pack.lastAt l n) (lz_Pack.keyAt l n) n
def lz_Pack.run (l : List Int) (i k : Nat) : Nat → Nat → Nat
 | 0, n => n
 | f + 1, n => if i + n < l.length ∧ rd l (i + n : Nat) = rd l (k + n : Nat) then lz_Pack.run l i k f (n + 1) else n
def lz_Pack.part (lits : List Int) (d n : Nat) : List Int := lz_Pack.litT lits (n - 4) ++ ([((d % 256 : Nat) : Int), ((d / 256 % 256 : Nat) : Int)] ++ (if 19 ≤ n then lz_Pack.layT (n - 19) else []))
def lz_Pack.go (l : List Int) : Nat → Nat → Nat → List Int → List Int
 | 0, _, _, out => out
 | f + 1, fr, i, out => if i + 4 ≤ l.length then
   match lz_Pack.lastAt l i (lz_Pack.keyAt l i) with
   | some k => if i - k.toNat > 65535 then lz_Pack.go l f fr (i + 1) out else
     lz_Pack.go l f (i + lz_Pack.run l i k.toNat l.length 4) (i + lz_Pack.run l i k.toNat l.length 4) (out ++ lz_Pack.part ((l.take i).drop fr) (i - k.toNat) (lz_Pack.run l i k.toNat l.length 4))
   | none => lz_Pack.go l f fr (i + 1) out
  else out ++ lz_Pack.litT (l.drop fr) 0
def lz_Pack.f (l0 : List Int) : Option (List Int) := if l0.length < 10000000000000 then some (lz_Pack.go l0 (l0.length + 1) 0 0 []) else none
theorem lz_Pack.lay_eq : ∀ (k : Nat) (b : List Int) (n : Nat), n / 255 < k → b.length + n / 255 < 140737488355328 → n < 140737488355328 → lz_lay.f k b (n : Int) = some (b ++ lz_Pack.layT n)
 | 0, _, _, h, _, _ => absurd h (by omega)
 | k + 1, b, n, h, hb, hn => by
  show lz_lay.l0 (k + 1) b n = _
  unfold lz_lay.l0
  by_cases h1 : (n : Int) ≥ 255
  ·
   rw [if_pos h1, if_pos (by omega)]
   have e1 : wrap64 ((n : Int) - 255) = ((n - 255 : Nat) : Int) := by unfold wrap64; omega
   have ih := lz_Pack.lay_eq k (b ++ [255]) (n - 255) (by omega) (by simp only [List.length_append, List.length_singleton]; omega) (by omega)
   rw [e1]
   refine (show lz_lay.l0 k (b ++ [255]) _ = _ from ih).trans ?_
   unfold lz_Pack.layT
   have e2 : n / 255 = (n - 255) / 255 + 1 := by omega
   have e3 : (n - 255) % 255 = n % 255 := by omega
   rw [e2, e3, List.replicate_succ]
   simp
  ·
   rw [if_neg h1, if_pos (by omega)]
   unfold lz_Pack.layT
   have e2 : n / 255 = 0 := by omega
   have e3 : (n : Int) % 256 = ((n % 255 : Nat) : Int) := by omega
   rw [e2, e3]
   rfl
theorem lz_Pack.or16 : ∀ a, a < 16 → ∀ b, b < 16 → Go.bits .or .i64 (((a : Nat) : Int) * 16) ((b : Nat) : Int) % 256 = ((16 * a + b : Nat) : Int) := by decide
theorem lz_Pack.lit_eq (k : Nat) (out lits : List Int) (m : Nat) (hk : lits.length / 255 < k) (hl : out.length + 2 * lits.length + 10 < 140737488355328) (hm : m < 140737488355328) : lz_literals.f k out lits (m : Int) = some (out ++ lz_Pack.litT lits m) := by
 unfold lz_literals.f
 have e1 : mn (lits.length : Int) 15 = ((min lits.length 15 : Nat) : Int) := by unfold mn; split <;> omega
 have e2 : mn (m : Int) 15 = ((min m 15 : Nat) : Int) := by unfold mn; split <;> omega
 rw [if_pos (by omega), Option.bind_some, e1, e2, lz_Pack.or16 _ (by omega) _ (by omega)]
 unfold lz_Pack.litT
 by_cases h : 15 ≤ lits.length
 ·
  have e3 : min lits.length 15 = 15 := by omega
  rw [e3, if_pos (by rfl), if_pos h]
  have e4 : wrap64 ((lits.length : Int) - 15) = ((lits.length - 15 : Nat) : Int) := by unfold wrap64; omega
  rw [e4, lz_Pack.lay_eq k _ _ (by omega) (by simp only [List.length_append, List.length_singleton]; omega) (by omega), Option.bind_some]
  have hll : (lz_Pack.layT (lits.length - 15)).length = (lits.length - 15) / 255 + 1 := by unfold lz_Pack.layT; simp
  rw [if_pos (by simp only [List.length_append, List.length_singleton, hll]; omega)]
  simp
 ·
  rw [if_neg (by omega), if_neg h, if_pos (by simp only [List.length_append, List.length_singleton]; omega)]
  simp
theorem lz_Pack.layT_len (n : Nat) : (lz_Pack.layT n).length = n / 255 + 1 := by unfold lz_Pack.layT; simp
theorem lz_Pack.litT_len (lits : List Int) (m : Nat) : (lz_Pack.litT lits m).length ≤ 2 + 2 * lits.length := by
 unfold lz_Pack.litT
 simp only [List.length_cons, List.length_append]
 split
 · rw [lz_Pack.layT_len]; omega
 · simp; omega
theorem lz_Pack.part_len (lits : List Int) (d n : Nat) (hn : 4 ≤ n) : (lz_Pack.part lits d n).length ≤ 2 * lits.length + 3 * n := by
 unfold lz_Pack.part
 have := lz_Pack.litT_len lits (n - 4)
 simp only [List.length_append, List.length_cons, List.length_nil]
 split
 · rw [lz_Pack.layT_len]; omega
 · simp; omega
theorem lz_Pack.run_le (l : List Int) (i k : Nat) : ∀ f n, i + n ≤ l.length → n ≤ lz_Pack.run l i k f n ∧ i + lz_Pack.run l i k f n ≤ l.length
 | 0, n, h => ⟨Nat.le_refl _, h⟩
 | f + 1, n, h => by
  unfold lz_Pack.run
  split
  ·
   rename_i hc
   have := lz_Pack.run_le l i k f (n + 1) (by omega)
   omega
  · exact ⟨Nat.le_refl _, h⟩
theorem lz_Pack.last_lt (l : List Int) (y k : Int) : ∀ n, lz_Pack.lastAt l n y = some k → 0 ≤ k ∧ k < n
 | 0, h => by simp [lz_Pack.lastAt] at h
 | n + 1, h => by
  simp only [lz_Pack.lastAt, upd] at h
  split at h
  ·
   injection h with h
   omega
  ·
   have := lz_Pack.last_lt l y k n h
   omega
theorem lz_Pack.key_some (l : List Int) (i : Nat) (h : i + 4 ≤ l.length) : lz_key.f (l.drop i) = some (lz_Pack.keyAt l i) ∧ 0 ≤ lz_Pack.keyAt l i ∧ lz_Pack.keyAt l i ≤ 4294967295 := by
 have hl : (l.drop i).length = l.length - i := List.length_drop
 have e : lz_key.f (l.drop i) = some (lz_Pack.keyAt l i) := by
  unfold lz_Pack.keyAt lz_key.f
  rw [if_pos (by omega), if_pos (by omega), if_pos (by omega), if_pos (by omega)]
  rfl
 refine ⟨e, ?_⟩
 unfold lz_key.f at e
 rw [if_pos (by omega), if_pos (by omega), if_pos (by omega), if_pos (by omega)] at e
 injection e with e
 rw [← e]
 exact bits32_range _ _ _
set_option maxHeartbeats 8000000 in
set_option maxRecDepth 100000 in
theorem lz_Pack.calls (A0 : Option Addr) (c0 : Nat) (l0 : List Int) (r : List Int) (w : World) (hr0 : Kd.C (Kd.int .u8) w A0 l0.length l0) (hc0 : l0.length ≤ c0) (h : lz_Pack.f l0 = some r) :
  Calls Try.prog 17 #[.slice A0 l0.length c0] w fun e w' => ∃ v0_ : Value, e = .returned (v0_) ∧ Kd.R (Kd.int .u8) 5 w' w.heap.size (fun _ => True) v0_ r ∧ Below w.heap.size w w' := by
 have HR0 := aM hr0
 have HC0 := aM hc0
 clear hr0 hc0
 have HB := aM (Below.refl w.heap.size w)
 have HT : Aside0 (Try.prog.underlying 58 = some (.map 59 3)) := ⟨by kernel_rfl⟩
 have HE : Aside0 (Try.prog.underlying 3 = some (.int .i64)) := ⟨by kernel_rfl⟩
 have HU : Aside0 (Try.prog.underlying 59 = some (.int .u32)) := ⟨by kernel_rfl⟩
 have HZ : Aside0 (∀ w : World, (zeroValue 3).run Try.prog w = .ok (.int .i64 0) w) := ⟨fun w => by kernel_rfl⟩
 obtain ⟨i05, hi05', _, hsz5', _⟩ := info_parts info5
 have HI5 := aM hi05'
 have HSZ5 := aM hsz5'
 clear hi05' hsz5'
 unfold lz_Pack.f at h
 split at h
 case isFalse => exact absurd h (by simp)
 case isTrue hlim =>
 have HLIM := aM hlim
 have HV := aM (Option.some.inj h)
 clear h hlim
 have hmm := @run_makeMap Try.prog
 go_enter Try.func17, Try.ntmps17
 go_wp2
 go_loopg [3, 5, 6, 7] (l0.length + 1) (fun kq v3 v5 v6 v7 w' => ∃ (out : List Int) (sn fr ix : Int), v5 = .int .i64 sn ∧ v6 = .int .i64 fr ∧ v7 = .int .i64 ix ∧ Aside0 (0 ≤ sn ∧ sn ≤ ix ∧ 0 ≤ fr ∧ fr ≤ ix ∧ ix ≤ l0.length ∧ (l0.length : Int) < kq + ix) ∧ Aside0 ((out.length : Int) ≤ 3 * fr) ∧ Aside0 (lz_Pack.go l0 kq fr.toNat ix.toNat out = r) ∧ Aside0 (Kd.R (Kd.int .u8) 5 w' w.heap.size (fun _ => True) v3 out) ∧ Aside0 (MapF Try.prog 59 3 (Lit.int .u32) (Lit.int .i64) w' w.heap.size sn.toNat (lz_Pack.lastAt l0 sn.toNat)) ∧ Aside0 (Below w.heap.size w w'))
 case atStart => exact ⟨[], 0, 0, 0, rfl, rfl, rfl, ⟨by omega⟩, ⟨by simp⟩, ⟨HV.out⟩, ⟨Kd.R_nil _ _ _ _ _⟩, ⟨MapF.made _ _ _ _ _ _⟩, ⟨below_alloc (Below.refl _ _) _⟩⟩
 case round =>
  clear HB hmm
  obtain ⟨out, sn, fr, ix, rfl, rfl, rfl, HI, HOL, HQ, HO, HM, HB⟩ := hrel
  cases gk with
  | zero => exact absurd HI.out (by omega)
  | succ k1 =>
  have HW1 : Aside0 (wrap64 ((l0.length : Int) - ix) = (l0.length : Int) - ix) := ⟨by have := HI.out; have := HLIM.out; unfold wrap64; omega⟩
  by_cases hend : (l0.length : Int) - ix < 4
  ·
   have c1 : decide (4 ≤ wrap64 ((l0.length : Int) - ix)) = false := decide_eq_false (by rw [HW1.out]; omega)
   have HEND := aM hend
   clear hend
   have HV2 : Aside0 (lz_literals.f (l0.length + 1) out (l0.drop fr.toNat) 0 = some r) := ⟨by
    have hi := HI.out
    have hq := HQ.out
    rw [lz_Pack.go, if_neg (by have := HEND.out; omega)] at hq
    have := lz_Pack.lit_eq (l0.length + 1) out (l0.drop fr.toNat) 0 (by rw [List.length_drop]; omega) (by have := HOL.out; have := HLIM.out; rw [List.length_drop]; omega) (by omega)
    rw [← hq]
    exact this⟩
   have hi05 := HI5.out
   have hsz5 := HSZ5.out
   have g1 := HI.out.2.2.1
   have g2 : fr ≤ (l0.length : Int) := by have := HI.out; omega
   obtain ⟨A1, c1, hcut1, hr1, hcc1⟩ := cut_nums_from (P := Try.prog) .u8 22 5 Try.underlying22 hi05 hsz5 HR0.out HC0.out fr g1 g2
   obtain ⟨y1, hy1⟩ : ∃ y, y = l0.drop (fr).toNat := ⟨_, rfl⟩
   rw [← hy1] at hcut1 hr1 hcc1
   have HR1 := aM hr1
   have HC1 := aM hcc1
   have HY1 := aM hy1
   clear hr1 hcc1 hy1
   rw [← HY1.out] at HV2
   have g3 := eq_true g1
   have g4 := eq_true g2
   clear g1 g2 hi05 hsz5
   go_wp2_with (first | ((with_reducible refine gate_callee (f := 39) rfl ?_); refine goesL_ (some 106) rfl rfl Try.func39 (by kernel_rfl) rfl #[u3, .slice A1 y1.length c1, .int .i64 0] rfl (by (try simp only [List.map_toArray, List.map_cons, List.map_nil]); first | done | rfl) ?_; (with_reducible refine (lz_literals.calls (l0.length + 1) (fun k_ => some k_ = u3.ownBlock) u3 out _ _ y1 0 r w _ ?side1 ?side2 ?side3 ?side4 HV2.out).mono ?_); (case side1 => exact HB.out); (case side2 => exact Kd.R_tight rfl HO.out); (case side3 => exact Kd.C_kept_came (Kd.heap_int .u8) HR1.out HB.out (fun k hk => Kd.R_base HO.out k hk.symm)); (case side4 => exact HC1.out); rintro e w2 ⟨v2, rfl, ho2, hb2, hk2⟩; refine ⟨_, rfl, ?_⟩; have HO2 := aM (Kd.R_mono (ok' := fun _ => True) ho2 (fun _ _ => trivial)); have HB2 := aM hb2; clear ho2 hb2 hk2))
   go_ret
   exact ⟨_, rfl, HO2.out, HB2.out⟩
  ·
   have c1 : decide (4 ≤ wrap64 ((l0.length : Int) - ix)) = true := decide_eq_true (by rw [HW1.out]; omega)
   have HGE : Aside0 (ix + 4 ≤ l0.length) := ⟨by omega⟩
   clear hend
   go_wp2
   go_loopg [5] (ix - sn).toNat (fun kq v5 w' => ∃ sn : Int, v5 = .int .i64 sn ∧ Aside0 (0 ≤ sn ∧ sn ≤ ix ∧ (kq : Int) + sn = ix) ∧ Aside0 (Kd.R (Kd.int .u8) 5 w' w.heap.size (fun _ => True) u3 out) ∧ Aside0 (MapF Try.prog 59 3 (Lit.int .u32) (Lit.int .i64) w' w.heap.size sn.toNat (lz_Pack.lastAt l0 sn.toNat)) ∧ Aside0 (Below w.heap.size w w'))
   case atStart => exact ⟨sn, rfl, ⟨by have := HI.out; omega⟩, HO, HM, HB⟩
   case round =>
    clear HO HM HB
    have HI0 : Aside0 (0 ≤ fr ∧ fr ≤ ix ∧ ix ≤ l0.length ∧ (l0.length : Int) < (k1 + 1 : Nat) + ix) := ⟨by have := HI.out; omega⟩
    clear HI
    obtain ⟨sn, rfl, HI, HO, HM, HB⟩ := hrel
    have hi05 := HI5.out
    have hsz5 := HSZ5.out
    cases gk with
    | succ k2 =>
     have c2 : decide (sn < ix) = true := decide_eq_true (by have := HI.out; omega)
     have g1 := HI.out.1
     have g2 : sn ≤ (l0.length : Int) := by have := HI.out; have := HI0.out; omega
     obtain ⟨A2, c2, hcut2, hr2, hcc2⟩ := cut_nums_from (P := Try.prog) .u8 22 5 Try.underlying22 hi05 hsz5 HR0.out HC0.out sn g1 g2
     obtain ⟨y2, hy2⟩ : ∃ y, y = l0.drop (sn).toNat := ⟨_, rfl⟩
     rw [← hy2] at hcut2 hr2 hcc2
     have HR2 := aM hr2
     have HC2 := aM hcc2
     have HY2 := aM hy2
     clear hr2 hcc2 hy2
     obtain ⟨hks, hk0, hk1⟩ := lz_Pack.key_some l0 sn.toNat (by have := HI.out; have := HGE.out; omega)
     rw [← HY2.out] at hks
     obtain ⟨kv, hkv⟩ : ∃ kv, kv = lz_Pack.keyAt l0 sn.toNat := ⟨_, rfl⟩
     rw [← hkv] at hks hk0 hk1
     have HKV := aM hks
     have HKN := aM hkv
     have HK : Aside0 (keyOf Try.prog 59 (.int .u32 kv) = some (.int .u32 kv)) := ⟨Maps.keyOf_int_mk HU.out (by simp [Lit.wf, IntKind.min, IntKind.max, IntKind.signed, IntKind.bits]; omega)⟩
     have g3 := eq_true g1
     have g4 := eq_true g2
     clear hks hk0 hk1 hkv g1 g2 hi05 hsz5
     go_wp2_with (first | ((with_reducible refine gate_callee (f := 38) rfl ?_); refine goesL_ (some 26) rfl rfl Try.func38 (by kernel_rfl) rfl #[.slice A2 y2.length c2] rfl (by (try simp only [List.map_toArray, List.map_cons, List.map_nil]); first | done | rfl) ?_; (with_reducible refine (lz_key.calls _ _ y2 kv _ ?side1 ?side2 HKV.out).mono ?_); (case side1 => exact Kd.C_below HR2.out HB.out); (case side2 => exact HC2.out); rintro e w' ⟨rfl, ⟨nd, rfl⟩⟩; refine ⟨_, rfl, ?_⟩) | (at_mapUpdate; refine map_store rfl _ _ _ 58 rfl (Maps.int_keyed HU.out) HT.out rfl (HM.out.drewN _) (by have := HI.out; have := HI0.out; have := HLIM.out; unfold maxLen; omega) (fun x y h => by injection h) _ _ kv sn rfl rfl HK.out (plainElem_int HE.out (WalkArith.wf_i64 (by have := HI.out; have := HI0.out; have := HLIM.out; omega))) ?_; intro w2 hm1 hg1; have HM1 := aM hm1; have HB2 := aM (below_mapped (pw_below_drewN HB.out _) hg1 (Nat.le_refl _) (below_size (pw_below_drewN HB.out _))); have HO1 := aM (R_mapped (Kd.R_drewN HO.out _) (HM.out.drewN _) hg1); clear hm1 hg1))
     go_roundg k2
     case measure => omega
     case rel =>
      have hi := HI.out
      have hi0 := HI0.out
      have hl := HLIM.out
      have hw : wrap64 (sn + 1) = sn + 1 := by unfold wrap64; omega
      have hn : (sn + 1).toNat = sn.toNat + 1 := by omega
      have hm2 := HM1.out
      have hcn : upd (lz_Pack.lastAt l0 sn.toNat) kv sn = lz_Pack.lastAt l0 (sn.toNat + 1) := by
       rw [HKN.out]
       show _ = upd (lz_Pack.lastAt l0 sn.toNat) (lz_Pack.keyAt l0 sn.toNat) ((sn.toNat : Nat) : Int)
       rw [Int.toNat_of_nonneg hi.1]
      rw [hcn, ← hn] at hm2
      exact ⟨sn + 1, (by rw [hw]), ⟨by omega⟩, HO1, ⟨hm2⟩, HB2⟩
    | zero =>
     have c2 : decide (sn < ix) = false := decide_eq_false (by have := HI.out; omega)
     have hsn : sn = ix := by have := HI.out; omega
     rw [hsn] at HM
     clear hsn
     have g1 : 0 ≤ ix := by have := HI.out; omega
     have g2 : ix ≤ (l0.length : Int) := by have := HI0.out; omega
     obtain ⟨A3, c3, hcut3, hr3, hcc3⟩ := cut_nums_from (P := Try.prog) .u8 22 5 Try.underlying22 hi05 hsz5 HR0.out HC0.out ix g1 g2
     obtain ⟨y3, hy3⟩ : ∃ y, y = l0.drop (ix).toNat := ⟨_, rfl⟩
     rw [← hy3] at hcut3 hr3 hcc3
     have HR3 := aM hr3
     have HC3 := aM hcc3
     have HY3 := aM hy3
     clear hr3 hcc3 hy3
     obtain ⟨hks, hk0, hk1⟩ := lz_Pack.key_some l0 ix.toNat (by have := HI.out; have := HGE.out; omega)
     rw [← HY3.out] at hks
     obtain ⟨kv, hkv⟩ : ∃ kv, kv = lz_Pack.keyAt l0 ix.toNat := ⟨_, rfl⟩
     rw [← hkv] at hks hk0 hk1
     have HKV := aM hks
     have HKN := aM hkv
     have HK : Aside0 (keyOf Try.prog 59 (.int .u32 kv) = some (.int .u32 kv)) := ⟨Maps.keyOf_int_mk HU.out (by simp [Lit.wf, IntKind.min, IntKind.max, IntKind.signed, IntKind.bits]; omega)⟩
     have g3 := eq_true g1
     have g4 := eq_true g2
     have HQ1 : Aside0 ((match lz_Pack.lastAt l0 ix.toNat kv with | some k => if ix.toNat - k.toNat > 65535 then lz_Pack.go l0 k1 fr.toNat (ix.toNat + 1) out else lz_Pack.go l0 k1 (ix.toNat + lz_Pack.run l0 ix.toNat k.toNat l0.length 4) (ix.toNat + lz_Pack.run l0 ix.toNat k.toNat l0.length 4) (out ++ lz_Pack.part ((l0.take ix.toNat).drop fr.toNat) (ix.toNat - k.toNat) (lz_Pack.run l0 ix.toNat k.toNat l0.length 4)) | none => lz_Pack.go l0 k1 fr.toNat (ix.toNat + 1) out) = r) := ⟨by
      have hq := HQ.out
      rw [lz_Pack.go, if_pos (by have := HGE.out; omega)] at hq
      rw [HKN.out]
      exact hq⟩
     clear hks hk0 hk1 hkv g1 g2 hi05 hsz5 HQ
     cases hla : lz_Pack.lastAt l0 ix.toNat kv with
     | none =>
      have HC := aM hla
      clear hla
      go_wp2_with (first | ((with_reducible refine gate_callee (f := 38) rfl ?_); refine goesL_ (some 33) rfl rfl Try.func38 (by kernel_rfl) rfl #[.slice A3 y3.length c3] rfl (by (try simp only [List.map_toArray, List.map_cons, List.map_nil]); first | done | rfl) ?_; (with_reducible refine (lz_key.calls _ _ y3 kv _ ?side1 ?side2 HKV.out).mono ?_); (case side1 => exact Kd.C_below HR3.out HB.out); (case side2 => exact HC3.out); rintro e w' ⟨rfl, ⟨nd, rfl⟩⟩; refine ⟨_, rfl, ?_⟩) | (at_lookup; refine map_look_ok rfl _ _ 58 rfl (Maps.int_keyed HU.out) HT.out HE.out (HZ.out _) rfl (HM.out.drewN _) _ kv rfl HK.out ?_; (rw [HC.out]; simp only [Option.getD_none, Option.isSome_none])))
      go_roundg k1
      case measure => omega
      case rel =>
       have hi0 := HI0.out
       have hi := HI.out
       have hl := HLIM.out
       have hw : wrap64 (ix + 1) = ix + 1 := by unfold wrap64; omega
       have hn : (ix + 1).toNat = ix.toNat + 1 := by omega
       have hq := HQ1.out
       rw [HC.out] at hq
       refine ⟨out, ix, fr, ix + 1, by first | rfl | (rw [show sn = ix from by omega]), rfl, by rw [hw], ⟨by have := HGE.out; omega⟩, HOL, ⟨by rw [hn]; exact hq⟩, ⟨Kd.R_drewN HO.out _⟩, ⟨HM.out.drewN _⟩, ⟨pw_below_drewN HB.out _⟩⟩
     | some kp =>
      have HC := aM hla
      have HKP := aM (lz_Pack.last_lt l0 kv kp ix.toNat hla)
      clear hla
      have HD : Aside0 (wrap64 (ix - kp) = ix - kp) := ⟨by have := HKP.out; have := HI0.out; have := HLIM.out; unfold wrap64; omega⟩
      obtain ⟨jd, hjd⟩ : ∃ j : Int, wrap64 (ix - kp) = j := ⟨_, rfl⟩
      have HJD : Aside0 (jd = ix - kp ∧ 0 < jd) := ⟨by have := HD.out; have := HKP.out; have := HI.out; omega⟩
      have hjdw : IntKind.i64.wrap (ix - kp) = jd := (i64_w _).trans hjd
      by_cases hfar : 65535 < jd
      ·
       have d3 : decide (65535 < jd) = true := decide_eq_true hfar
       have HFAR := aM hfar
       clear hfar
       go_wp2_with (first | ((with_reducible refine gate_callee (f := 38) rfl ?_); refine goesL_ (some 33) rfl rfl Try.func38 (by kernel_rfl) rfl #[.slice A3 y3.length c3] rfl (by (try simp only [List.map_toArray, List.map_cons, List.map_nil]); first | done | rfl) ?_; (with_reducible refine (lz_key.calls _ _ y3 kv _ ?side1 ?side2 HKV.out).mono ?_); (case side1 => exact Kd.C_below HR3.out HB.out); (case side2 => exact HC3.out); rintro e w' ⟨rfl, ⟨nd, rfl⟩⟩; refine ⟨_, rfl, ?_⟩) | (at_lookup; refine map_look_ok rfl _ _ 58 rfl (Maps.int_keyed HU.out) HT.out HE.out (HZ.out _) rfl (HM.out.drewN _) _ kv rfl HK.out ?_; (rw [HC.out]; simp only [Option.getD_some, Option.isSome_some])))
       go_roundg k1
       case measure => omega
       case rel =>
        have hi0 := HI0.out
        have hi := HI.out
        have hl := HLIM.out
        have hw : wrap64 (ix + 1) = ix + 1 := by unfold wrap64; omega
        have hn : (ix + 1).toNat = ix.toNat + 1 := by omega
        have hq := HQ1.out
        rw [HC.out] at hq
        simp only at hq
        rw [if_pos (by have := HFAR.out; have := HJD.out; have := HKP.out; omega)] at hq
        refine ⟨out, ix, fr, ix + 1, by first | rfl | (rw [show sn = ix from by omega]), rfl, by rw [hw], ⟨by have := HGE.out; omega⟩, HOL, ⟨by rw [hn]; exact hq⟩, ⟨Kd.R_drewN HO.out _⟩, ⟨HM.out.drewN _⟩, ⟨pw_below_drewN HB.out _⟩⟩
      ·
       have d3 : decide (65535 < jd) = false := decide_eq_false hfar
       have HFAR := aM hfar
       clear hfar
       have HQ2 : Aside0 (lz_Pack.go l0 k1 (ix.toNat + lz_Pack.run l0 ix.toNat kp.toNat l0.length 4) (ix.toNat + lz_Pack.run l0 ix.toNat kp.toNat l0.length 4) (out ++ lz_Pack.part ((l0.take ix.toNat).drop fr.toNat) (ix.toNat - kp.toNat) (lz_Pack.run l0 ix.toNat kp.toNat l0.length 4)) = r) := ⟨by
        have hq := HQ1.out
        rw [HC.out] at hq
        simp only at hq
        rw [if_neg (by have := HFAR.out; have := HJD.out; have := HKP.out; omega)] at hq
        exact hq⟩
       go_wp2_with (first | ((with_reducible refine gate_callee (f := 38) rfl ?_); refine goesL_ (some 33) rfl rfl Try.func38 (by kernel_rfl) rfl #[.slice A3 y3.length c3] rfl (by (try simp only [List.map_toArray, List.map_cons, List.map_nil]); first | done | rfl) ?_; (with_reducible refine (lz_key.calls _ _ y3 kv _ ?side1 ?side2 HKV.out).mono ?_); (case side1 => exact Kd.C_below HR3.out HB.out); (case side2 => exact HC3.out); rintro e w' ⟨rfl, ⟨nd, rfl⟩⟩; refine ⟨_, rfl, ?_⟩) | (at_lookup; refine map_look_ok rfl _ _ 58 rfl (Maps.int_keyed HU.out) HT.out HE.out (HZ.out _) rfl (HM.out.drewN _) _ kv rfl HK.out ?_; (rw [HC.out]; simp only [Option.getD_some, Option.isSome_some])))
       go_loopg [10] l0.length (fun kq v10 w' => ∃ n : Int, v10 = .int .i64 n ∧ Aside0 (4 ≤ n ∧ ix + n ≤ l0.length ∧ (l0.length : Int) ≤ kq + ix + n) ∧ Aside0 (lz_Pack.run l0 ix.toNat kp.toNat kq n.toNat = lz_Pack.run l0 ix.toNat kp.toNat l0.length 4) ∧ Aside0 (Kd.R (Kd.int .u8) 5 w' w.heap.size (fun _ => True) u3 out) ∧ Aside0 (MapF Try.prog 59 3 (Lit.int .u32) (Lit.int .i64) w' w.heap.size ix.toNat (lz_Pack.lastAt l0 ix.toNat)) ∧ Aside0 (Below w.heap.size w w'))
       case atStart => exact ⟨4, rfl, ⟨by have := HGE.out; have := HI.out; omega⟩, ⟨rfl⟩, ⟨Kd.R_drewN HO.out _⟩, ⟨HM.out.drewN _⟩, ⟨pw_below_drewN HB.out _⟩⟩
       case round =>
        clear HO HM HB
        obtain ⟨n, rfl, HN, HRUN, HO, HM, HB⟩ := hrel
        obtain ⟨j6, hj6⟩ : ∃ j : Int, wrap64 (ix + n) = j := ⟨_, rfl⟩
        have HJ6 : Aside0 (j6 = ix + n ∧ 0 ≤ j6) := ⟨by have := HN.out; have := HI.out; have := HLIM.out; rw [← hj6]; unfold wrap64; omega⟩
        have hj6w : IntKind.i64.wrap (ix + n) = j6 := (i64_w _).trans hj6
        by_cases hin : j6 < (l0.length : Int)
        ·
         have d5 : decide (j6 < (l0.length : Int)) = true := decide_eq_true hin
         have HLT6 := aM hin
         clear hin
         obtain ⟨j8, hj8⟩ : ∃ j : Int, wrap64 (kp + n) = j := ⟨_, rfl⟩
         have HJ8 : Aside0 (j8 = kp + n ∧ 0 ≤ j8) := ⟨by have := HN.out; have := HKP.out; have := HI.out; have := HLIM.out; rw [← hj8]; unfold wrap64; omega⟩
         have hj8w : IntKind.i64.wrap (kp + n) = j8 := (i64_w _).trans hj8
         have p311 : 0 ≤ j6 := by have := HJ6.out; omega
         have q311 : j6 < (l0.length : Int) := by have := HLT6.out; omega
         obtain ⟨ad311, e311, hx311_0⟩ := Kd.at_int HR0.out j6 p311 q311
         cases e311
         replace hx311_0 := (HB.out.cell (World.block_lt_of_cell? w _ hx311_0)).trans hx311_0
         have p312 : 0 ≤ j8 := by have := HJ8.out; omega
         have q312 : j8 < (l0.length : Int) := by have := HJ8.out; have := HJ6.out; have := HKP.out; omega
         obtain ⟨ad312, e312, hx312_0⟩ := Kd.at_int HR0.out j8 p312 q312
         obtain rfl : ad311 = ad312 := (by injection e312)
         replace hx312_0 := (HB.out.cell (World.block_lt_of_cell? w _ hx312_0)).trans hx312_0
         replace p311 := eq_true p311
         replace q311 := eq_true q311
         replace p312 := eq_true p312
         replace q312 := eq_true q312
         by_cases heq : rd l0 j6 = rd l0 j8
         ·
          have d11 : (rd l0 j6 == rd l0 j8) = true := beq_iff_eq.mpr heq
          have d12 : (rd l0 j6 != rd l0 j8) = false := bne_eq_false_iff_eq.mpr heq
          have HEQ := aM heq
          clear heq
          cases gk with
          | zero => exact absurd HLT6.out (by have := HN.out; have := HJ6.out; omega)
          | succ k3 =>
          go_wp2
          repeat (go_quiet (fail); try go_wp2)
          go_roundg k3
          case measure => omega
          case rel =>
           have hn := HN.out
           have hl := HLIM.out
           have hi := HI0.out
           have hw : wrap64 (n + 1) = n + 1 := by unfold wrap64; omega
           have hnn : (n + 1).toNat = n.toNat + 1 := by omega
           refine ⟨n + 1, by rw [hw], ⟨by have := HLT6.out; have := HJ6.out; omega⟩, ⟨?_⟩, ⟨Kd.R_drewN HO.out _⟩, ⟨HM.out.drewN _⟩, ⟨pw_below_drewN HB.out _⟩⟩
           have hr := HRUN.out
           rw [lz_Pack.run, if_pos ⟨by have := HLT6.out; have := HJ6.out; have := HI.out; omega, by
            have e1 : ((ix.toNat + n.toNat : Nat) : Int) = j6 := by have := HJ6.out; have := HI.out; omega
            have e2 : ((kp.toNat + n.toNat : Nat) : Int) = j8 := by have := HJ8.out; have := HKP.out; omega
            rw [e1, e2]
            exact HEQ.out⟩] at hr
           rw [hnn]
           exact hr
         ·
          have d11 : (rd l0 j6 == rd l0 j8) = false := beq_eq_false_iff_ne.mpr heq
          have d12 : (rd l0 j6 != rd l0 j8) = true := bne_iff_ne.mpr heq
          have HSTOP : Aside0 (lz_Pack.run l0 ix.toNat kp.toNat gk n.toNat = n.toNat) := ⟨by
           cases gk with
           | zero => rfl
           | succ k3 =>
            rw [lz_Pack.run, if_neg]
            rintro ⟨_, h2⟩
            apply heq
            have e1 : ((ix.toNat + n.toNat : Nat) : Int) = j6 := by have := HJ6.out; have := HI.out; have := HN.out; omega
            have e2 : ((kp.toNat + n.toNat : Nat) : Int) = j8 := by have := HJ8.out; have := HKP.out; have := HN.out; omega
            rw [e1, e2] at h2
            exact h2⟩
          clear heq
          have HEN : Aside0 (n.toNat = lz_Pack.run l0 ix.toNat kp.toNat l0.length 4) := ⟨by rw [← HRUN.out, HSTOP.out]⟩
          have HNB : Aside0 (4 ≤ n ∧ n ≤ l0.length ∧ n < 10000000000000) := ⟨by have := HN.out; have := HI.out; have := HI0.out; have := HLIM.out; omega⟩
          have HW4 : Aside0 (wrap64 (n - 4) = ((n.toNat - 4 : Nat) : Int)) := ⟨by have := HNB.out; unfold wrap64; omega⟩
          have HW19 : Aside0 (wrap64 (wrap64 (n - 4) - 15) = n - 19) := ⟨by have := HNB.out; have := HW4.out; rw [HW4.out]; unfold wrap64; omega⟩
          have hi05 := HI5.out
          have hsz5 := HSZ5.out
          have g1 : 0 ≤ fr := HI0.out.1
          have g2 : fr ≤ ix := HI0.out.2.1
          have g5 : ix ≤ (l0.length : Int) := HI0.out.2.2.1
          obtain ⟨A4, c4, hcut4, hr4, hcc4⟩ := cut_nums_mid (P := Try.prog) .u8 22 5 Try.underlying22 hi05 hsz5 HR0.out HC0.out fr ix g1 g2 g5
          obtain ⟨y4, hy4⟩ : ∃ y, y = (l0.take ix.toNat).drop fr.toNat := ⟨_, rfl⟩
          rw [← hy4] at hcut4 hr4 hcc4
          have HR4 := aM hr4
          have HC4 := aM hcc4
          have HY4 := aM hy4
          have HYL : Aside0 (y4.length = ix.toNat - fr.toNat) := ⟨by rw [HY4.out, List.length_drop, List.length_take]; omega⟩
          have g3 := eq_true g1
          have g4 := eq_true g2
          have g6 := eq_true g5
          have g7 : decide (fr ≤ ix) = true := decide_eq_true g2
          clear g1 g2 g5 hi05 hsz5 hr4 hcc4 hy4
          obtain ⟨y77, hy77⟩ : ∃ y, y = out ++ lz_Pack.litT y4 (n.toNat - 4) := ⟨_, rfl⟩
          have HLT : Aside0 (lz_literals.f (l0.length + 1) out y4 (wrap64 (n - 4)) = some y77) := ⟨by
           rw [hy77, HW4.out]
           exact lz_Pack.lit_eq (l0.length + 1) out y4 (n.toNat - 4) (by have := HYL.out; have := HI0.out; omega) (by have := HYL.out; have := HOL.out; have := HI0.out; have := HLIM.out; omega) (by have := HNB.out; omega)⟩
          have HY77 := aM hy77
          have HL77 : Aside0 (y77.length ≤ 3 * fr.toNat + 2 + 2 * (ix.toNat - fr.toNat)) := ⟨by
           have := lz_Pack.litT_len y4 (n.toNat - 4)
           have := HYL.out
           have := HOL.out
           have := HI0.out
           rw [hy77, List.length_append]
           omega⟩
          have HJN : Aside0 (jd % 256 = ((ix.toNat - kp.toNat) % 256 : Nat) ∧ jd / 256 % 256 = ((ix.toNat - kp.toNat) / 256 % 256 : Nat)) := ⟨by
           have := HJD.out
           have := HKP.out
           have := HI0.out
           have e : jd = ((ix.toNat - kp.toNat : Nat) : Int) := by omega
           rw [e]
           constructor <;> rfl⟩
          have HPL : Aside0 ((lz_Pack.part y4 (ix.toNat - kp.toNat) n.toNat).length ≤ 2 * y4.length + 3 * n.toNat) := ⟨lz_Pack.part_len _ _ _ (by have := HNB.out; omega)⟩
          clear hy77
          by_cases h19 : 19 ≤ n
          ·
           have d17 : decide (15 ≤ wrap64 (n - 4)) = true := decide_eq_true (by rw [HW4.out]; omega)
           have H19 := aM h19
           clear h19
           have HLY : Aside0 (lz_lay.f (l0.length + 1) (y77 ++ [jd % 256, jd / 256 % 256]) (wrap64 (wrap64 (n - 4) - 15)) = some (y77 ++ [jd % 256, jd / 256 % 256] ++ lz_Pack.layT (n.toNat - 19))) := ⟨by
            have e : n - 19 = ((n.toNat - 19 : Nat) : Int) := by have := H19.out; omega
            rw [HW19.out, e]
            exact lz_Pack.lay_eq (l0.length + 1) _ (n.toNat - 19) (by have := HNB.out; omega) (by have := HL77.out; have := HNB.out; have := HI0.out; have := HLIM.out; simp only [List.length_append, List.length_cons, List.length_nil]; omega) (by have := HNB.out; omega)⟩
           go_wp2; repeat (go_quiet (fail)); go_wp2_with (first | ((with_reducible refine gate_callee (f := 39) rfl ?_); refine goesL_ (some 77) rfl rfl Try.func39 (by kernel_rfl) rfl #[u3, .slice A4 y4.length c4, .int .i64 (wrap64 (n - 4))] rfl (by (try simp only [List.map_toArray, List.map_cons, List.map_nil]); first | done | rfl) ?_; (with_reducible refine (lz_literals.calls (l0.length + 1) (fun k_ => some k_ = u3.ownBlock) u3 out _ _ y4 (wrap64 (n - 4)) y77 w _ ?side1 ?side2 ?side3 ?side4 HLT.out).mono ?_); (case side1 => first | exact HB.out | exact pw_below_drewN HB.out _); (case side2 => first | exact Kd.R_tight rfl HO.out | exact Kd.R_tight rfl (Kd.R_drewN HO.out _)); (case side3 => first | exact Kd.C_kept_came (Kd.heap_int .u8) HR4.out HB.out (fun k hk => Kd.R_base HO.out k hk.symm) | exact Kd.C_kept_came (Kd.heap_int .u8) HR4.out (pw_below_drewN HB.out _) (fun k hk => Kd.R_base HO.out k hk.symm)); (case side4 => exact HC4.out); rintro e w2 ⟨v77, rfl, ho2, hb2, hk2⟩; refine ⟨_, rfl, ?_⟩; have HO2 := aM (Kd.R_mono (ok' := fun _ => True) ho2 (fun _ _ => trivial)); have HB2 := aM hb2; have HM2 := aM (HM.out.same (hk2.2 _ HM.out.lt (fun he => HM.out.ne_row HO.out he))); clear ho2 hb2 hk2) | ((with_reducible refine gate_dst (N := 88) rfl ?_); refine Kd.R_lit (Kd.int .u8) _ 5 ?hg (N := 88) ?hd (xs := ([jd % 256, jd / 256 % 256] : List Int)) (inner := [.int .u8 (jd % 256), .int .u8 (jd / 256 % 256)]) (ok := fun _ => True) (okp := fun _ => True) ?hr ?hp (fun _ hk => hk) trivial (Below.refl _ _) (Nat.le_refl _) (by simp) ?_; (case hd => rfl); (case hg => rfl); (case hr => first | (go_simp; done) | (go_simp; rfl)); (case hp => exact (Reps.one (show Kd.M (Kd.int .u8) _ _ _ (jd % 256) [.int .u8 (jd % 256)] from rfl) (Reps.one (show Kd.M (Kd.int .u8) _ _ _ (jd / 256 % 256) [.int .u8 (jd / 256 % 256)] from rfl) (Reps.none _ _)))); intro v88 w88 ho88 hb88 hg_ hnew_; have HO3 := aM (Kd.R_below HO2.out hb88); have HM3 := aM (HM2.out.below hb88); have HB3 := aM (below_step HB2.out hb88); have HL88 := aM ho88; clear ho88 hb88 hg_ hnew_; obtain ⟨A88, c88, e88⟩ := Kd.R_slice HL88.out; subst e88) | ((with_reducible refine gate_builtin (b := .append) (xs := #[.tmp 78, .tmp 88]) rfl ?_); at_builtin; refine Kd.R_append_rows (Kd.int .u8) (w0 := w) w.heap.size rfl (.tmp 78) (.tmp 88) 22 5 (.int .u8 0) 1 rfl Try.underlying22 info5 rfl (by decide) (by omega) v77 y77 [jd % 256, jd / 256 % 256] _ _ _ (fun _ => True) (fun _ => False) rfl rfl ?aO ?aR (fun _ _ h => h) (fun _ h => h.elim) ?aF ?aB ?aS ?aL ?_; (case aR => exact (Kd.R_reads' HL88.out).2.2); (case aB => exact HB3.out); (case aF => exact (fun _ _ => trivial)); (case aO => exact HO3.out); (case aS => exact below_size HB3.out); (case aL => have := HL77.out; have := HI0.out; have := HLIM.out; simp only [List.length_cons, List.length_nil]; omega); intro v89 w89 ho hb hg hat; have HO4 := aM ho; have HB4 := aM hb; have HM4 := aM (HM3.out.kept hg (HM3.out.ne_row HO3.out)); clear ho hb hg hat) | ((with_reducible refine gate_callee (f := 40) rfl ?_); refine goesL_ (some 97) rfl rfl Try.func40 (by kernel_rfl) rfl #[v89, .int .i64 (wrap64 (wrap64 (n - 4) - 15))] rfl (by (try simp only [List.map_toArray, List.map_cons, List.map_nil]); first | done | rfl) ?_; (with_reducible refine (lz_lay.calls (l0.length + 1) (fun k_ => some k_ = v89.ownBlock) v89 (y77 ++ [jd % 256, jd / 256 % 256]) (wrap64 (wrap64 (n - 4) - 15)) _ w _ ?side1 ?side2 HLY.out).mono ?_); (case side1 => exact HB4.out); (case side2 => exact Kd.R_tight rfl HO4.out); rintro e w5 ⟨v97, rfl, ho2, hb2, hk2⟩; refine ⟨_, rfl, ?_⟩; have HO5 := aM (Kd.R_mono (ok' := fun _ => True) ho2 (fun _ _ => trivial)); have HB5 := aM hb2; have HM5 := aM (HM4.out.same (hk2.2 _ HM4.out.lt (fun he => HM4.out.ne_row HO4.out he))); clear ho2 hb2 hk2))
           go_roundg k1
           case measure => omega
           case rel =>
            have hnb := HNB.out
            have hi0 := HI0.out
            have hn := HN.out
            have hw : wrap64 (ix + n) = ix + n := by have := HLIM.out; unfold wrap64; omega
            have hnn : (ix + n).toNat = ix.toNat + n.toNat := by omega
            have hq := HQ2.out
            rw [← HEN.out, ← HY4.out, ← hnn] at hq
            have hpp : y77 ++ [jd % 256, jd / 256 % 256] ++ lz_Pack.layT (n.toNat - 19) = out ++ lz_Pack.part y4 (ix.toNat - kp.toNat) n.toNat := by
             rw [HY77.out, lz_Pack.part, if_pos (by have := H19.out; omega), HJN.out.1, HJN.out.2]
             simp
            rw [← hpp] at hq
            have hpl := HPL.out
            have hyl := HYL.out
            have hol := HOL.out
            refine ⟨_, sn, ix + n, ix + n, rfl, by rw [HJ6.out.1], by rw [HJ6.out.1], ⟨by have := HI.out; omega⟩, ⟨?_⟩, ⟨hq⟩, HO5, ⟨?_⟩, HB5⟩
            ·
             rw [hpp, List.length_append]
             omega
            ·
             have e : sn = ix := by have := HI.out; omega
             rw [e]
             exact HM5.out
          ·
           have d17 : decide (15 ≤ wrap64 (n - 4)) = false := decide_eq_false (by rw [HW4.out]; omega)
           have H19 := aM h19
           clear h19
           go_wp2; repeat (go_quiet (fail)); go_wp2_with (first | ((with_reducible refine gate_callee (f := 39) rfl ?_); refine goesL_ (some 77) rfl rfl Try.func39 (by kernel_rfl) rfl #[u3, .slice A4 y4.length c4, .int .i64 (wrap64 (n - 4))] rfl (by (try simp only [List.map_toArray, List.map_cons, List.map_nil]); first | done | rfl) ?_; (with_reducible refine (lz_literals.calls (l0.length + 1) (fun k_ => some k_ = u3.ownBlock) u3 out _ _ y4 (wrap64 (n - 4)) y77 w _ ?side1 ?side2 ?side3 ?side4 HLT.out).mono ?_); (case side1 => first | exact HB.out | exact pw_below_drewN HB.out _); (case side2 => first | exact Kd.R_tight rfl HO.out | exact Kd.R_tight rfl (Kd.R_drewN HO.out _)); (case side3 => first | exact Kd.C_kept_came (Kd.heap_int .u8) HR4.out HB.out (fun k hk => Kd.R_base HO.out k hk.symm) | exact Kd.C_kept_came (Kd.heap_int .u8) HR4.out (pw_below_drewN HB.out _) (fun k hk => Kd.R_base HO.out k hk.symm)); (case side4 => exact HC4.out); rintro e w2 ⟨v77, rfl, ho2, hb2, hk2⟩; refine ⟨_, rfl, ?_⟩; have HO2 := aM (Kd.R_mono (ok' := fun _ => True) ho2 (fun _ _ => trivial)); have HB2 := aM hb2; have HM2 := aM (HM.out.same (hk2.2 _ HM.out.lt (fun he => HM.out.ne_row HO.out he))); clear ho2 hb2 hk2) | ((with_reducible refine gate_dst (N := 88) rfl ?_); refine Kd.R_lit (Kd.int .u8) _ 5 ?hg (N := 88) ?hd (xs := ([jd % 256, jd / 256 % 256] : List Int)) (inner := [.int .u8 (jd % 256), .int .u8 (jd / 256 % 256)]) (ok := fun _ => True) (okp := fun _ => True) ?hr ?hp (fun _ hk => hk) trivial (Below.refl _ _) (Nat.le_refl _) (by simp) ?_; (case hd => rfl); (case hg => rfl); (case hr => first | (go_simp; done) | (go_simp; rfl)); (case hp => exact (Reps.one (show Kd.M (Kd.int .u8) _ _ _ (jd % 256) [.int .u8 (jd % 256)] from rfl) (Reps.one (show Kd.M (Kd.int .u8) _ _ _ (jd / 256 % 256) [.int .u8 (jd / 256 % 256)] from rfl) (Reps.none _ _)))); intro v88 w88 ho88 hb88 hg_ hnew_; have HO3 := aM (Kd.R_below HO2.out hb88); have HM3 := aM (HM2.out.below hb88); have HB3 := aM (below_step HB2.out hb88); have HL88 := aM ho88; clear ho88 hb88 hg_ hnew_; obtain ⟨A88, c88, e88⟩ := Kd.R_slice HL88.out; subst e88) | ((with_reducible refine gate_builtin (b := .append) (xs := #[.tmp 78, .tmp 88]) rfl ?_); at_builtin; refine Kd.R_append_rows (Kd.int .u8) (w0 := w) w.heap.size rfl (.tmp 78) (.tmp 88) 22 5 (.int .u8 0) 1 rfl Try.underlying22 info5 rfl (by decide) (by omega) v77 y77 [jd % 256, jd / 256 % 256] _ _ _ (fun _ => True) (fun _ => False) rfl rfl ?aO ?aR (fun _ _ h => h) (fun _ h => h.elim) ?aF ?aB ?aS ?aL ?_; (case aR => exact (Kd.R_reads' HL88.out).2.2); (case aB => exact HB3.out); (case aF => exact (fun _ _ => trivial)); (case aO => exact HO3.out); (case aS => exact below_size HB3.out); (case aL => have := HL77.out; have := HI0.out; have := HLIM.out; simp only [List.length_cons, List.length_nil]; omega); intro v89 w89 ho hb hg hat; have HO4 := aM ho; have HB4 := aM hb; have HM4 := aM (HM3.out.kept hg (HM3.out.ne_row HO3.out)); clear ho hb hg hat))
           go_roundg k1
           case measure => omega
           case rel =>
            have hnb := HNB.out
            have hi0 := HI0.out
            have hn := HN.out
            have hw : wrap64 (ix + n) = ix + n := by have := HLIM.out; unfold wrap64; omega
            have hnn : (ix + n).toNat = ix.toNat + n.toNat := by omega
            have hq := HQ2.out
            rw [← HEN.out, ← HY4.out, ← hnn] at hq
            have hpp : y77 ++ [jd % 256, jd / 256 % 256] = out ++ lz_Pack.part y4 (ix.toNat - kp.toNat) n.toNat := by
             rw [HY77.out, lz_Pack.part, if_neg (by have := H19.out; omega), HJN.out.1, HJN.out.2]
             simp
            rw [← hpp] at hq
            have hpl := HPL.out
            have hyl := HYL.out
            have hol := HOL.out
            refine ⟨_, sn, ix + n, ix + n, rfl, by rw [HJ6.out.1], by rw [HJ6.out.1], ⟨by have := HI.out; omega⟩, ⟨?_⟩, ⟨hq⟩, HO4, ⟨?_⟩, HB4⟩
            ·
             rw [hpp, List.length_append]
             omega
            ·
             have e : sn = ix := by have := HI.out; omega
             rw [e]
             exact HM4.out
        ·
         have d5 : decide (j6 < (l0.length : Int)) = false := decide_eq_false hin
         have HSTOP : Aside0 (lz_Pack.run l0 ix.toNat kp.toNat gk n.toNat = n.toNat) := ⟨by
          cases gk with
          | zero => rfl
          | succ k3 =>
           rw [lz_Pack.run, if_neg]
           rintro ⟨h1, _⟩
           apply hin
           have := HJ6.out
           have := HI.out
           have := HN.out
           omega⟩
         clear hin
         have HEN : Aside0 (n.toNat = lz_Pack.run l0 ix.toNat kp.toNat l0.length 4) := ⟨by rw [← HRUN.out, HSTOP.out]⟩
         have HNB : Aside0 (4 ≤ n ∧ n ≤ l0.length ∧ n < 10000000000000) := ⟨by have := HN.out; have := HI.out; have := HI0.out; have := HLIM.out; omega⟩
         have HW4 : Aside0 (wrap64 (n - 4) = ((n.toNat - 4 : Nat) : Int)) := ⟨by have := HNB.out; unfold wrap64; omega⟩
         have HW19 : Aside0 (wrap64 (wrap64 (n - 4) - 15) = n - 19) := ⟨by have := HNB.out; have := HW4.out; rw [HW4.out]; unfold wrap64; omega⟩
         have hi05 := HI5.out
         have hsz5 := HSZ5.out
         have g1 : 0 ≤ fr := HI0.out.1
         have g2 : fr ≤ ix := HI0.out.2.1
         have g5 : ix ≤ (l0.length : Int) := HI0.out.2.2.1
         obtain ⟨A4, c4, hcut4, hr4, hcc4⟩ := cut_nums_mid (P := Try.prog) .u8 22 5 Try.underlying22 hi05 hsz5 HR0.out HC0.out fr ix g1 g2 g5
         obtain ⟨y4, hy4⟩ : ∃ y, y = (l0.take ix.toNat).drop fr.toNat := ⟨_, rfl⟩
         rw [← hy4] at hcut4 hr4 hcc4
         have HR4 := aM hr4
         have HC4 := aM hcc4
         have HY4 := aM hy4
         have HYL : Aside0 (y4.length = ix.toNat - fr.toNat) := ⟨by rw [HY4.out, List.length_drop, List.length_take]; omega⟩
         have g3 := eq_true g1
         have g4 := eq_true g2
         have g6 := eq_true g5
         have g7 : decide (fr ≤ ix) = true := decide_eq_true g2
         clear g1 g2 g5 hi05 hsz5 hr4 hcc4 hy4
         obtain ⟨y77, hy77⟩ : ∃ y, y = out ++ lz_Pack.litT y4 (n.toNat - 4) := ⟨_, rfl⟩
         have HLT : Aside0 (lz_literals.f (l0.length + 1) out y4 (wrap64 (n - 4)) = some y77) := ⟨by
          rw [hy77, HW4.out]
          exact lz_Pack.lit_eq (l0.length + 1) out y4 (n.toNat - 4) (by have := HYL.out; have := HI0.out; omega) (by have := HYL.out; have := HOL.out; have := HI0.out; have := HLIM.out; omega) (by have := HNB.out; omega)⟩
         have HY77 := aM hy77
         have HL77 : Aside0 (y77.length ≤ 3 * fr.toNat + 2 + 2 * (ix.toNat - fr.toNat)) := ⟨by
          have := lz_Pack.litT_len y4 (n.toNat - 4)
          have := HYL.out
          have := HOL.out
          have := HI0.out
          rw [hy77, List.length_append]
          omega⟩
         have HJN : Aside0 (jd % 256 = ((ix.toNat - kp.toNat) % 256 : Nat) ∧ jd / 256 % 256 = ((ix.toNat - kp.toNat) / 256 % 256 : Nat)) := ⟨by
          have := HJD.out
          have := HKP.out
          have := HI0.out
          have e : jd = ((ix.toNat - kp.toNat : Nat) : Int) := by omega
          rw [e]
          constructor <;> rfl⟩
         have HPL : Aside0 ((lz_Pack.part y4 (ix.toNat - kp.toNat) n.toNat).length ≤ 2 * y4.length + 3 * n.toNat) := ⟨lz_Pack.part_len _ _ _ (by have := HNB.out; omega)⟩
         clear hy77
         by_cases h19 : 19 ≤ n
         ·
          have d17 : decide (15 ≤ wrap64 (n - 4)) = true := decide_eq_true (by rw [HW4.out]; omega)
          have H19 := aM h19
          clear h19
          have HLY : Aside0 (lz_lay.f (l0.length + 1) (y77 ++ [jd % 256, jd / 256 % 256]) (wrap64 (wrap64 (n - 4) - 15)) = some (y77 ++ [jd % 256, jd / 256 % 256] ++ lz_Pack.layT (n.toNat - 19))) := ⟨by
           have e : n - 19 = ((n.toNat - 19 : Nat) : Int) := by have := H19.out; omega
           rw [HW19.out, e]
           exact lz_Pack.lay_eq (l0.length + 1) _ (n.toNat - 19) (by have := HNB.out; omega) (by have := HL77.out; have := HNB.out; have := HI0.out; have := HLIM.out; simp only [List.length_append, List.length_cons, List.length_nil]; omega) (by have := HNB.out; omega)⟩
          go_wp2; repeat (go_quiet (fail)); go_wp2_with (first | ((with_reducible refine gate_callee (f := 39) rfl ?_); refine goesL_ (some 77) rfl rfl Try.func39 (by kernel_rfl) rfl #[u3, .slice A4 y4.length c4, .int .i64 (wrap64 (n - 4))] rfl (by (try simp only [List.map_toArray, List.map_cons, List.map_nil]); first | done | rfl) ?_; (with_reducible refine (lz_literals.calls (l0.length + 1) (fun k_ => some k_ = u3.ownBlock) u3 out _ _ y4 (wrap64 (n - 4)) y77 w _ ?side1 ?side2 ?side3 ?side4 HLT.out).mono ?_); (case side1 => first | exact HB.out | exact pw_below_drewN HB.out _); (case side2 => first | exact Kd.R_tight rfl HO.out | exact Kd.R_tight rfl (Kd.R_drewN HO.out _)); (case side3 => first | exact Kd.C_kept_came (Kd.heap_int .u8) HR4.out HB.out (fun k hk => Kd.R_base HO.out k hk.symm) | exact Kd.C_kept_came (Kd.heap_int .u8) HR4.out (pw_below_drewN HB.out _) (fun k hk => Kd.R_base HO.out k hk.symm)); (case side4 => exact HC4.out); rintro e w2 ⟨v77, rfl, ho2, hb2, hk2⟩; refine ⟨_, rfl, ?_⟩; have HO2 := aM (Kd.R_mono (ok' := fun _ => True) ho2 (fun _ _ => trivial)); have HB2 := aM hb2; have HM2 := aM (HM.out.same (hk2.2 _ HM.out.lt (fun he => HM.out.ne_row HO.out he))); clear ho2 hb2 hk2) | ((with_reducible refine gate_dst (N := 88) rfl ?_); refine Kd.R_lit (Kd.int .u8) _ 5 ?hg (N := 88) ?hd (xs := ([jd % 256, jd / 256 % 256] : List Int)) (inner := [.int .u8 (jd % 256), .int .u8 (jd / 256 % 256)]) (ok := fun _ => True) (okp := fun _ => True) ?hr ?hp (fun _ hk => hk) trivial (Below.refl _ _) (Nat.le_refl _) (by simp) ?_; (case hd => rfl); (case hg => rfl); (case hr => first | (go_simp; done) | (go_simp; rfl)); (case hp => exact (Reps.one (show Kd.M (Kd.int .u8) _ _ _ (jd % 256) [.int .u8 (jd % 256)] from rfl) (Reps.one (show Kd.M (Kd.int .u8) _ _ _ (jd / 256 % 256) [.int .u8 (jd / 256 % 256)] from rfl) (Reps.none _ _)))); intro v88 w88 ho88 hb88 hg_ hnew_; have HO3 := aM (Kd.R_below HO2.out hb88); have HM3 := aM (HM2.out.below hb88); have HB3 := aM (below_step HB2.out hb88); have HL88 := aM ho88; clear ho88 hb88 hg_ hnew_; obtain ⟨A88, c88, e88⟩ := Kd.R_slice HL88.out; subst e88) | ((with_reducible refine gate_builtin (b := .append) (xs := #[.tmp 78, .tmp 88]) rfl ?_); at_builtin; refine Kd.R_append_rows (Kd.int .u8) (w0 := w) w.heap.size rfl (.tmp 78) (.tmp 88) 22 5 (.int .u8 0) 1 rfl Try.underlying22 info5 rfl (by decide) (by omega) v77 y77 [jd % 256, jd / 256 % 256] _ _ _ (fun _ => True) (fun _ => False) rfl rfl ?aO ?aR (fun _ _ h => h) (fun _ h => h.elim) ?aF ?aB ?aS ?aL ?_; (case aR => exact (Kd.R_reads' HL88.out).2.2); (case aB => exact HB3.out); (case aF => exact (fun _ _ => trivial)); (case aO => exact HO3.out); (case aS => exact below_size HB3.out); (case aL => have := HL77.out; have := HI0.out; have := HLIM.out; simp only [List.length_cons, List.length_nil]; omega); intro v89 w89 ho hb hg hat; have HO4 := aM ho; have HB4 := aM hb; have HM4 := aM (HM3.out.kept hg (HM3.out.ne_row HO3.out)); clear ho hb hg hat) | ((with_reducible refine gate_callee (f := 40) rfl ?_); refine goesL_ (some 97) rfl rfl Try.func40 (by kernel_rfl) rfl #[v89, .int .i64 (wrap64 (wrap64 (n - 4) - 15))] rfl (by (try simp only [List.map_toArray, List.map_cons, List.map_nil]); first | done | rfl) ?_; (with_reducible refine (lz_lay.calls (l0.length + 1) (fun k_ => some k_ = v89.ownBlock) v89 (y77 ++ [jd % 256, jd / 256 % 256]) (wrap64 (wrap64 (n - 4) - 15)) _ w _ ?side1 ?side2 HLY.out).mono ?_); (case side1 => exact HB4.out); (case side2 => exact Kd.R_tight rfl HO4.out); rintro e w5 ⟨v97, rfl, ho2, hb2, hk2⟩; refine ⟨_, rfl, ?_⟩; have HO5 := aM (Kd.R_mono (ok' := fun _ => True) ho2 (fun _ _ => trivial)); have HB5 := aM hb2; have HM5 := aM (HM4.out.same (hk2.2 _ HM4.out.lt (fun he => HM4.out.ne_row HO4.out he))); clear ho2 hb2 hk2))
          go_roundg k1
          case measure => omega
          case rel =>
           have hnb := HNB.out
           have hi0 := HI0.out
           have hn := HN.out
           have hw : wrap64 (ix + n) = ix + n := by have := HLIM.out; unfold wrap64; omega
           have hnn : (ix + n).toNat = ix.toNat + n.toNat := by omega
           have hq := HQ2.out
           rw [← HEN.out, ← HY4.out, ← hnn] at hq
           have hpp : y77 ++ [jd % 256, jd / 256 % 256] ++ lz_Pack.layT (n.toNat - 19) = out ++ lz_Pack.part y4 (ix.toNat - kp.toNat) n.toNat := by
            rw [HY77.out, lz_Pack.part, if_pos (by have := H19.out; omega), HJN.out.1, HJN.out.2]
            simp
           rw [← hpp] at hq
           have hpl := HPL.out
           have hyl := HYL.out
           have hol := HOL.out
           refine ⟨_, sn, ix + n, ix + n, rfl, by rw [HJ6.out.1], by rw [HJ6.out.1], ⟨by have := HI.out; omega⟩, ⟨?_⟩, ⟨hq⟩, HO5, ⟨?_⟩, HB5⟩
           ·
            rw [hpp, List.length_append]
            omega
           ·
            have e : sn = ix := by have := HI.out; omega
            rw [e]
            exact HM5.out
         ·
          have d17 : decide (15 ≤ wrap64 (n - 4)) = false := decide_eq_false (by rw [HW4.out]; omega)
          have H19 := aM h19
          clear h19
          go_wp2; repeat (go_quiet (fail)); go_wp2_with (first | ((with_reducible refine gate_callee (f := 39) rfl ?_); refine goesL_ (some 77) rfl rfl Try.func39 (by kernel_rfl) rfl #[u3, .slice A4 y4.length c4, .int .i64 (wrap64 (n - 4))] rfl (by (try simp only [List.map_toArray, List.map_cons, List.map_nil]); first | done | rfl) ?_; (with_reducible refine (lz_literals.calls (l0.length + 1) (fun k_ => some k_ = u3.ownBlock) u3 out _ _ y4 (wrap64 (n - 4)) y77 w _ ?side1 ?side2 ?side3 ?side4 HLT.out).mono ?_); (case side1 => first | exact HB.out | exact pw_below_drewN HB.out _); (case side2 => first | exact Kd.R_tight rfl HO.out | exact Kd.R_tight rfl (Kd.R_drewN HO.out _)); (case side3 => first | exact Kd.C_kept_came (Kd.heap_int .u8) HR4.out HB.out (fun k hk => Kd.R_base HO.out k hk.symm) | exact Kd.C_kept_came (Kd.heap_int .u8) HR4.out (pw_below_drewN HB.out _) (fun k hk => Kd.R_base HO.out k hk.symm)); (case side4 => exact HC4.out); rintro e w2 ⟨v77, rfl, ho2, hb2, hk2⟩; refine ⟨_, rfl, ?_⟩; have HO2 := aM (Kd.R_mono (ok' := fun _ => True) ho2 (fun _ _ => trivial)); have HB2 := aM hb2; have HM2 := aM (HM.out.same (hk2.2 _ HM.out.lt (fun he => HM.out.ne_row HO.out he))); clear ho2 hb2 hk2) | ((with_reducible refine gate_dst (N := 88) rfl ?_); refine Kd.R_lit (Kd.int .u8) _ 5 ?hg (N := 88) ?hd (xs := ([jd % 256, jd / 256 % 256] : List Int)) (inner := [.int .u8 (jd % 256), .int .u8 (jd / 256 % 256)]) (ok := fun _ => True) (okp := fun _ => True) ?hr ?hp (fun _ hk => hk) trivial (Below.refl _ _) (Nat.le_refl _) (by simp) ?_; (case hd => rfl); (case hg => rfl); (case hr => first | (go_simp; done) | (go_simp; rfl)); (case hp => exact (Reps.one (show Kd.M (Kd.int .u8) _ _ _ (jd % 256) [.int .u8 (jd % 256)] from rfl) (Reps.one (show Kd.M (Kd.int .u8) _ _ _ (jd / 256 % 256) [.int .u8 (jd / 256 % 256)] from rfl) (Reps.none _ _)))); intro v88 w88 ho88 hb88 hg_ hnew_; have HO3 := aM (Kd.R_below HO2.out hb88); have HM3 := aM (HM2.out.below hb88); have HB3 := aM (below_step HB2.out hb88); have HL88 := aM ho88; clear ho88 hb88 hg_ hnew_; obtain ⟨A88, c88, e88⟩ := Kd.R_slice HL88.out; subst e88) | ((with_reducible refine gate_builtin (b := .append) (xs := #[.tmp 78, .tmp 88]) rfl ?_); at_builtin; refine Kd.R_append_rows (Kd.int .u8) (w0 := w) w.heap.size rfl (.tmp 78) (.tmp 88) 22 5 (.int .u8 0) 1 rfl Try.underlying22 info5 rfl (by decide) (by omega) v77 y77 [jd % 256, jd / 256 % 256] _ _ _ (fun _ => True) (fun _ => False) rfl rfl ?aO ?aR (fun _ _ h => h) (fun _ h => h.elim) ?aF ?aB ?aS ?aL ?_; (case aR => exact (Kd.R_reads' HL88.out).2.2); (case aB => exact HB3.out); (case aF => exact (fun _ _ => trivial)); (case aO => exact HO3.out); (case aS => exact below_size HB3.out); (case aL => have := HL77.out; have := HI0.out; have := HLIM.out; simp only [List.length_cons, List.length_nil]; omega); intro v89 w89 ho hb hg hat; have HO4 := aM ho; have HB4 := aM hb; have HM4 := aM (HM3.out.kept hg (HM3.out.ne_row HO3.out)); clear ho hb hg hat))
          go_roundg k1
          case measure => omega
          case rel =>
           have hnb := HNB.out
           have hi0 := HI0.out
           have hn := HN.out
           have hw : wrap64 (ix + n) = ix + n := by have := HLIM.out; unfold wrap64; omega
           have hnn : (ix + n).toNat = ix.toNat + n.toNat := by omega
           have hq := HQ2.out
           rw [← HEN.out, ← HY4.out, ← hnn] at hq
           have hpp : y77 ++ [jd % 256, jd / 256 % 256] = out ++ lz_Pack.part y4 (ix.toNat - kp.toNat) n.toNat := by
            rw [HY77.out, lz_Pack.part, if_neg (by have := H19.out; omega), HJN.out.1, HJN.out.2]
            simp
           rw [← hpp] at hq
           have hpl := HPL.out
           have hyl := HYL.out
           have hol := HOL.out
           refine ⟨_, sn, ix + n, ix + n, rfl, by rw [HJ6.out.1], by rw [HJ6.out.1], ⟨by have := HI.out; omega⟩, ⟨?_⟩, ⟨hq⟩, HO4, ⟨?_⟩, HB4⟩
           ·
            rw [hpp, List.length_append]
            omega
           ·
            have e : sn = ix := by have := HI.out; omega
            rw [e]
            exact HM4.out
end Go.Proofs.Ythaifibhflfpkaa.Q
end
