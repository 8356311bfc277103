/- A part of the claim's own texts: words, walks and plain laws. -/
import Derived.Test.YthaifibhflfpkaaTb2
import Derived.Maps.RangeWalk
import Derived.Sort.MapsRangeIn
import Derived.Sort.OwnSorted
import Derived.StillTailTactics
import Derived.Test.YthaifibhflfpkaaTb3
import Derived.Test.YthaifibhflfpkaaTb5
import Derived.Test.YthaifibhflfpkaaTb6
import Derived.Sort.Walk0
namespace Go.Proofs.YthaifibhflfpkaaX
abbrev b21_ : Array Bool := #[false, false, false, false, false, false, false, false, false, false, false, false, false]
abbrev b22_ : Array Bool := #[true, false, false, false, false, false, false, false, false, false, false, false, false]
abbrev b23_ : Array Bool := #[true, false, true, false, false, false, false, false, false, false, false, false, false]
abbrev b24_ : Array Bool := #[true, false, true, false, false, true, false, false, false, false, false, false, false]
abbrev b25_ : Array Bool := #[true, false, true, false, false, true, false, true, false, false, false, false, false]
abbrev b26_ : Array Bool := #[true, true, true, false, false, true, false, true, false, false, false, false, false]
abbrev b27_ : Array Bool := #[true, true, true, true, false, true, false, true, false, false, false, false, false]
abbrev b28_ : Array Bool := #[true, true, true, true, false, true, true, true, false, false, false, false, false]
abbrev b29_ : Array Bool := #[true, true, true, true, false, true, true, true, true, false, false, false, false]
abbrev b30_ : Array Bool := #[true, true, true, true, true, true, true, true, true, false, false, false, false]
abbrev b31_ : Array Bool := #[true, true, true, true, true, true, true, true, true, true, false, false, false]
abbrev b32_ : Array Bool := #[true, true, true, true, true, true, true, true, true, true, true, false, false]
abbrev b33_ : Array Bool := #[true, true, true, true, true, true, true, true, true, true, true, true, false]
abbrev b34_ : Array Bool := #[true, true, true, true, true, true, true, true, true, true, true, true, true]
end Go.Proofs.YthaifibhflfpkaaX
section
namespace Go.Proofs.Ythaifibhflfpkaa.Q
open Go.RowKit Go.Proofs.YthaifibhflfpkaaW.PrintWords Go.Proofs.YthaifibhflfpkaaW.PrintLast Go.Proofs.YthaifibhflfpkaaW.PrintMore Go.Proofs.YthaifibhflfpkaaX
attribute [local go_sem] max2_int min2_int max_two min_two max_three min_three max_four min_four   -- for this text's walks alone
set_option linter.unusedVariables false
set_option linter.unusedSimpArgs false
def sym_Train.or2 (a b : Int) : Int := if a = 0 then b else a
set_option maxHeartbeats 4000000 in
set_option maxRecDepth 100000 in
theorem sym_Train.cmpOr (a b : Int) (g : Nat) (W : World) (h0 : W.cell? ⟨g, 0, none⟩ = some (.int .i64 a)) (h1 : W.cell? ⟨g, 1, none⟩ = some (.int .i64 b)) : Calls Try.prog 43 #[.slice (some ⟨g, 0, none⟩) 2 2] W fun e w' => e = .returned (.int .i64 (sym_Train.or2 a b)) ∧ w' = W := by
 by_cases ha : a = 0
 ·
  subst ha
  have e : sym_Train.or2 0 b = b := rfl
  rw [e]
  clear e
  by_cases hb : b = 0
  ·
   subst hb
   go_enter Try.func43, Try.ntmps43
   go_wp2
   refine wp_loop_rounds 3 ?_
   rw [rounds_succ]
   go_wp2
   rw [rounds_succ]
   go_wp2
   rw [rounds_succ]
   go_wp2
   go_ret
   exact ⟨rfl, rfl⟩
  ·
   have d1 : (b == 0) = false := beq_eq_false_iff_ne.mpr hb
   have d2 : (b != 0) = true := bne_iff_ne.mpr hb
   go_enter Try.func43, Try.ntmps43
   go_wp2
   refine wp_loop_rounds 3 ?_
   rw [rounds_succ]
   go_wp2
   rw [rounds_succ]
   go_wp2
   go_ret
   exact ⟨rfl, rfl⟩
 ·
  have d1 : (a == 0) = false := beq_eq_false_iff_ne.mpr ha
  have d2 : (a != 0) = true := bne_iff_ne.mpr ha
  have e : sym_Train.or2 a b = a := if_neg ha
  rw [e]
  clear e ha
  go_enter Try.func43, Try.ntmps43
  go_wp2
  refine wp_loop_rounds 3 ?_
  rw [rounds_succ]
  go_wp2
  go_ret
  exact ⟨rfl, rfl⟩
def sym_Train.encP (x : ByteArray × Int) : List Value := [.string x.1, .int .i64 x.2]
def sym_Train.cf (x y : ByteArray × Int) : Int := sym_Train.or2 (Lib.compareInt y.2 x.2) (Lib.compareBytes x.1.data.toList y.1.data.toList)
open Go.Sort Go.Shelf in
set_option maxHeartbeats 4000000 in
set_option maxRecDepth 100000 in
theorem sym_Train.closure (x y : ByteArray × Int) (W : World) : Calls Try.prog 42 #[.agg #[.string x.1, .int .i64 x.2], .agg #[.string y.1, .int .i64 y.2]] W fun e w' => e = .returned (.int .i64 (sym_Train.cf x y)) ∧ ∃ q os', w' = grow (W.drewN q) os' := by
 have hc1 := fun W' => Try.cmp_Compare_int y.2 x.2 W'
 have hc2 := fun W' => Try.strings_Compare x.1 y.1 W'
 unfold sym_Train.cf
 generalize Lib.compareInt y.2 x.2 = r1 at hc1 ⊢
 generalize Lib.compareBytes x.1.data.toList y.1.data.toList = r2 at hc2 ⊢
 have HC1 := aM hc1
 have HC2 := aM hc2
 clear hc1 hc2
 go_enter Try.func42, Try.ntmps42
 go_wp2
 obtain ⟨W2, hW2⟩ : ∃ W2, (W.alloc (.cells #[.string x.1, .int .i64 x.2] 68)).alloc (.cells #[.string y.1, .int .i64 y.2] 68) = W2 := ⟨_, rfl⟩
 have hb2 : W2.heap[W.heap.size]? = some (.cells #[.string x.1, .int .i64 x.2] 68 (0, 0)) := by
  rw [← hW2]
  exact blk_alloc (heap_alloc_new W _) _
 have hb3 : W2.heap[W.heap.size + 1]? = some (.cells #[.string y.1, .int .i64 y.2] 68 (0, 0)) := by
  rw [← hW2]
  have h := heap_alloc_new (W.alloc (.cells #[.string x.1, .int .i64 x.2] 68)) (.cells #[.string y.1, .int .i64 y.2] 68)
  rw [World.size_alloc] at h
  exact h
 have h20 : W2.cell? ⟨W.heap.size, 0, none⟩ = some (.string x.1) := (blk_cell hb2 0).trans rfl
 have h21 : W2.cell? ⟨W.heap.size, 1, none⟩ = some (.int .i64 x.2) := (blk_cell hb2 1).trans rfl
 have h30 : W2.cell? ⟨W.heap.size + 1, 0, none⟩ = some (.string y.1) := (blk_cell hb3 0).trans rfl
 have h31 : W2.cell? ⟨W.heap.size + 1, 1, none⟩ = some (.int .i64 y.2) := (blk_cell hb3 1).trans rfl
 clear hb2 hb3
 have HW2 := aM hW2
 rw [hW2]
 clear hW2
 refine start_ (n := 13) (S := fun w' => w'.cell? ⟨W.heap.size, 0, none⟩ = some (.string x.1) ∧ w'.cell? ⟨W.heap.size, 1, none⟩ = some (.int .i64 x.2) ∧ w'.cell? ⟨W.heap.size + 1, 0, none⟩ = some (.string y.1) ∧ w'.cell? ⟨W.heap.size + 1, 1, none⟩ = some (.int .i64 y.2)) (ds := []) b21_ (by kernel_rfl) rfl rfl ⟨h20, h21, h30, h31⟩ (fun hHeld => ?_)
 clear h20 h21 h30 h31
 refine pure_ (i := 0) (N := some 5) (v := ?_) (a' := ?_) b22_ rfl rfl (by kernel_rfl) (fun _ _ _ h => h) (Or.inl ⟨by rfl, ?_⟩) ?_ ?_; rotate_left; (· intro w'; go_simp; with_reducible rfl); rotate_left; (· simp only [xQ, i64_w, i32_w]; rfl)
 refine pure_ (i := 2) (N := some 7) (v := ?_) (a' := ?_) b23_ rfl rfl (by kernel_rfl) (fun _ _ _ h => h) (Or.inl ⟨by rfl, ?_⟩) ?_ ?_; rotate_left; (· intro w'; go_simp; with_reducible rfl); rotate_left; (· simp only [xQ, i64_w, i32_w]; rfl)
 refine pure_ (i := 5) (N := some 10) (v := ?_) (a' := ?_) b24_ rfl rfl (by kernel_rfl) (fun _ _ _ h => h) (Or.inl ⟨by rfl, ?_⟩) ?_ ?_; rotate_left; (· intro w'; go_simp; with_reducible rfl); rotate_left; (· simp only [xQ, i64_w, i32_w]; rfl)
 refine pure_ (i := 7) (N := some 12) (v := ?_) (a' := ?_) b25_ rfl rfl (by kernel_rfl) (fun _ _ _ h => h) (Or.inl ⟨by rfl, ?_⟩) ?_ ?_; rotate_left; (· intro w'; go_simp; with_reducible rfl); rotate_left; (· simp only [xQ, i64_w, i32_w]; rfl)
 refine take_ (i := 1) (N := some 6) (v := ?_) (a' := ?_) b26_ rfl rfl (by kernel_rfl) (fun _ _ _ h => h) (Or.inl ⟨by rfl, ?_⟩) hHeld ?_ ?_; rotate_left; (· rintro w' ⟨s0, s1, s2, s3⟩; go_simp; with_reducible rfl); rotate_left; (· simp only [xQ, i64_w, i32_w]; rfl)
 refine take_ (i := 3) (N := some 8) (v := ?_) (a' := ?_) b27_ rfl rfl (by kernel_rfl) (fun _ _ _ h => h) (Or.inl ⟨by rfl, ?_⟩) hHeld ?_ ?_; rotate_left; (· rintro w' ⟨s0, s1, s2, s3⟩; go_simp; with_reducible rfl); rotate_left; (· simp only [xQ, i64_w, i32_w]; rfl)
 refine take_ (i := 6) (N := some 11) (v := ?_) (a' := ?_) b28_ rfl rfl (by kernel_rfl) (fun _ _ _ h => h) (Or.inl ⟨by rfl, ?_⟩) hHeld ?_ ?_; rotate_left; (· rintro w' ⟨s0, s1, s2, s3⟩; go_simp; with_reducible rfl); rotate_left; (· simp only [xQ, i64_w, i32_w]; rfl)
 refine take_ (i := 8) (N := some 13) (v := ?_) (a' := ?_) b29_ rfl rfl (by kernel_rfl) (fun _ _ _ h => h) (Or.inl ⟨by rfl, ?_⟩) hHeld ?_ ?_; rotate_left; (· rintro w' ⟨s0, s1, s2, s3⟩; go_simp; with_reducible rfl); rotate_left; (· simp only [xQ, i64_w, i32_w]; rfl)
 refine one_ (i := 4) (N := some 9) b30_ rfl rfl (by kernel_rfl) (by decide) (fun K hK => ?_)
 refine goes_ Try.func44 (by kernel_rfl) rfl #[.int .i64 y.2, .int .i64 x.2] (by rfl) rfl rfl (by (try simp only [List.map_toArray, List.map_cons, List.map_nil]); first | done | rfl) ?_
 with_reducible refine (HC1.out _).mono ?_
 rintro e w' ⟨rfl, rfl⟩
 refine ⟨_, rfl, ?_⟩
 refine hK.out _ _ ⟨hHeld.1, hHeld.2.1, hHeld.2.2.1, hHeld.2.2.2⟩ (fun hHeld => ?_)
 clear hK K
 refine norm_ (a' := ?_) ?_ ?_
 rotate_left
 ·
  show Act.put _ (some 9) _ = _
  simp only [xQ, i64_w, i32_w]
  rfl
 refine one_ (i := 9) (N := some 14) b31_ rfl rfl (by kernel_rfl) (by decide) (fun K hK => ?_)
 refine goes_ Try.func45 (by kernel_rfl) rfl #[.string x.1, .string y.1] (by rfl) rfl rfl (by (try simp only [List.map_toArray, List.map_cons, List.map_nil]); first | done | rfl) ?_
 with_reducible refine (HC2.out _).mono ?_
 rintro e w' ⟨rfl, rfl⟩
 refine ⟨_, rfl, ?_⟩
 refine hK.out _ _ ⟨hHeld.1, hHeld.2.1, hHeld.2.2.1, hHeld.2.2.2⟩ (fun hHeld => ?_)
 clear hK K
 refine norm_ (a' := ?_) ?_ ?_
 rotate_left
 ·
  show Act.put _ (some 14) _ = _
  simp only [xQ, i64_w, i32_w]
  rfl
 refine one_ (i := 10) (N := some 15) b32_ rfl rfl (by kernel_rfl) (by decide) (fun K hK => ?_)
 refine value_ (w1 := ?_) (v := ?_) (by rfl) rfl ?_ ?_
 rotate_left 2
 ·
  go_simp
  constructor
  · rfl
  · rfl
 refine hK.out _ _ ⟨(World.cell?_alloc_lt _ _ _ (World.block_lt_of_cell? _ _ (hHeld.1))).trans (hHeld.1), (World.cell?_alloc_lt _ _ _ (World.block_lt_of_cell? _ _ (hHeld.2.1))).trans (hHeld.2.1), (World.cell?_alloc_lt _ _ _ (World.block_lt_of_cell? _ _ (hHeld.2.2.1))).trans (hHeld.2.2.1), (World.cell?_alloc_lt _ _ _ (World.block_lt_of_cell? _ _ (hHeld.2.2.2))).trans (hHeld.2.2.2)⟩ (fun hHeld => ?_)
 clear hK K
 refine norm_ (a' := ?_) ?_ ?_
 rotate_left
 ·
  show Act.put _ (some 15) _ = _
  simp only [xQ, i64_w, i32_w]
  rfl
 refine one_ (i := 11) (N := some 16) b33_ rfl rfl (by kernel_rfl) (by decide) (fun K hK => ?_)
 refine goes_ Try.func43 (by kernel_rfl) rfl #[.slice (some ⟨_, 0, none⟩) 2 2] (by rfl) rfl rfl (by (try simp only [List.map_toArray, List.map_cons, List.map_nil]); first | done | rfl) ?_
 with_reducible refine (sym_Train.cmpOr r1 r2 _ _ ?h0 ?h1).mono ?_
 (case h0 => exact (blk_cell (blk_drew (heap_alloc_new W2 _)) 0).trans rfl)
 (case h1 => exact (blk_cell (blk_drew (heap_alloc_new W2 _)) 1).trans rfl)
 rintro e w' ⟨rfl, rfl⟩
 refine ⟨_, rfl, ?_⟩
 refine hK.out _ _ ⟨hHeld.1, hHeld.2.1, hHeld.2.2.1, hHeld.2.2.2⟩ (fun hHeld => ?_)
 clear hK K
 refine norm_ (a' := ?_) ?_ ?_
 rotate_left
 ·
  show Act.put _ (some 16) _ = _
  simp only [xQ, i64_w, i32_w]
  rfl
 refine pure_ (i := 12) (N := some 4) (v := ?_) (a' := ?_) b34_ rfl rfl (by kernel_rfl) (fun _ _ _ h => h) (Or.inl ⟨by rfl, ?_⟩) ?_ ?_; rotate_left; (· intro w'; go_simp; with_reducible rfl); rotate_left; (· simp only [xQ, i64_w, i32_w]; rfl)
 refine done_ (by kernel_rfl) ?_
 go_wp2
 go_ret
 exact ⟨rfl, 1, _, by rw [← HW2.out, alloc_eq_grow, alloc_eq_grow, alloc_eq_grow, grow_grow, grow_grow]; rfl⟩
def sym_Train.cut (b : List Int) (left : Nat) : ByteArray := strOfNums (b.take (min left b.length))
def sym_Train.winN (s : ByteArray) (i : Nat) : Nat → Nat → List (List UInt8)
 | 0, _ => []
 | f + 1, n => if n ≤ min 8 (s.size - i) then (s.extract i (i + n)).data.toList :: sym_Train.winN s i f (n + 1) else []
def sym_Train.winI (s : ByteArray) : Nat → Nat → List (List UInt8)
 | 0, _ => []
 | f + 1, i => if i < s.size then sym_Train.winN s i 7 2 ++ sym_Train.winI s f (i + 1) else []
def sym_Train.winL : List (List Int) → Nat → List (List UInt8)
 | [], _ => []
 | b :: r, left => sym_Train.winI (sym_Train.cut b left) (sym_Train.cut b left).size 0 ++ sym_Train.winL r (left - (sym_Train.cut b left).size)
def sym_Train.cnt (ws : List (List UInt8)) (y : List UInt8) : Option Int := if y ∈ ws then some (ws.count y : Int) else none
def sym_Train.pieceOf (ws : List (List UInt8)) (y : List UInt8) : ByteArray × Int := (⟨y.toArray⟩, ((y.length : Int) - 1) * (ws.count y : Int))
def sym_Train.pieces (ws : List (List UInt8)) : List (ByteArray × Int) := (ws.eraseDups.filter fun y => decide (1 < ws.count y)).map (sym_Train.pieceOf ws)
def sym_Train.train (ws : List (List UInt8)) : List ByteArray := (((sym_Train.pieces ws).mergeSort fun x y => !(ltOf sym_Train.cf) y x).take 32).map Prod.fst
def sym_Train.f (l0 : List (List Int)) : Option (List ByteArray) := if l0.length < 1000000000000 then some (sym_Train.train (sym_Train.winL l0 1024)) else none
theorem sym_Train.cnt_bump (ws : List (List UInt8)) (y : List UInt8) : upd (sym_Train.cnt ws) y ((sym_Train.cnt ws y).getD 0 + 1) = sym_Train.cnt (ws ++ [y]) := by
 funext z
 unfold upd sym_Train.cnt
 by_cases h : z = y
 ·
  subst h
  rw [if_pos rfl]
  have hz : z ∈ ws ++ [z] := by simp
  have hc : (ws ++ [z]).count z = ws.count z + 1 := by rw [List.count_append]; simp
  rw [if_pos hz, hc]
  by_cases hm : z ∈ ws
  ·
   rw [if_pos hm]
   simp
  ·
   rw [if_neg hm]
   simp [List.count_eq_zero.2 hm]
 ·
  rw [if_neg h]
  have e : (ws ++ [y]).count z = ws.count z := by
   rw [List.count_append]
   have : ([y] : List (List UInt8)).count z = 0 := by
    rw [List.count_eq_zero]
    simp
    exact h
   omega
  by_cases hm : z ∈ ws
  · rw [if_pos hm, if_pos (by simp [hm]), e]
  · rw [if_neg hm, if_neg (by simp [hm, h])]
theorem sym_Train.cnt_nil : sym_Train.cnt [] = fun _ => none := by
 funext y
 simp [sym_Train.cnt]
section
open Go.Sort Go.Shelf
theorem sym_Train.cb_lt : ∀ a b : List UInt8, Lib.compareBytes a b < 0 ↔ a < b
 | [], [] => by simp [Lib.compareBytes]
 | [], _ :: _ => by simp [Lib.compareBytes]
 | _ :: _, [] => by simp [Lib.compareBytes]
 | x :: xs, y :: ys => by
  have ih := sym_Train.cb_lt xs ys
  unfold Lib.compareBytes
  rw [List.cons_lt_cons_iff]
  by_cases h1 : x < y
  · simp [h1]
  ·
   by_cases h2 : y < x
   ·
    simp [h1, h2]
    intro he
    subst he
    exact absurd h2 h1
   ·
    have he : x = y := UInt8.le_antisymm (UInt8.not_lt.1 h2) (UInt8.not_lt.1 h1)
    subst he
    simp [ih]
theorem sym_Train.lt_iff (x y : ByteArray × Int) : ltOf sym_Train.cf x y = true ↔ y.2 < x.2 ∨ (y.2 = x.2 ∧ x.1.data.toList < y.1.data.toList) := by
 unfold ltOf sym_Train.cf sym_Train.or2
 rw [decide_eq_true_iff]
 unfold Lib.compareInt
 rcases Int.lt_trichotomy y.2 x.2 with h | h | h
 · simp [h]
 · simp [h, sym_Train.cb_lt]
 ·
  have h1 : ¬ y.2 < x.2 := by omega
  have h2 : y.2 ≠ x.2 := by omega
  simp [h1, h2, h]
theorem sym_Train.lt_false (x y : ByteArray × Int) : ltOf sym_Train.cf x y = false ↔ x.2 < y.2 ∨ (y.2 = x.2 ∧ y.1.data.toList ≤ x.1.data.toList) := by
 rw [← Bool.not_eq_true, sym_Train.lt_iff]
 constructor
 ·
  intro h
  rcases Int.lt_trichotomy x.2 y.2 with h1 | h1 | h1
  · exact .inl h1
  ·
   refine .inr ⟨h1.symm, ?_⟩
   by_cases h2 : x.1.data.toList < y.1.data.toList
   · exact absurd (.inr ⟨h1.symm, h2⟩) h
   · exact List.not_lt.1 h2
  · exact absurd (.inl h1) h
 ·
  rintro (h | ⟨h1, h2⟩) (h3 | ⟨h3, h4⟩)
  · omega
  · omega
  · omega
  · exact List.not_lt.2 h2 h4
theorem sym_Train.swo : SWO (ltOf sym_Train.cf) where
 irrefl x := by
  rw [sym_Train.lt_false]
  exact .inr ⟨rfl, List.le_refl _⟩
 trans x y z h1 h2 := by
  rw [sym_Train.lt_iff] at *
  rcases h1 with h1 | ⟨h1, h1'⟩ <;> rcases h2 with h2 | ⟨h2, h2'⟩
  · exact .inl (by omega)
  · exact .inl (by omega)
  · exact .inl (by omega)
  · exact .inr ⟨by omega, List.lt_trans h1' h2'⟩
 ntrans x y z h1 h2 := by
  rw [sym_Train.lt_false] at *
  rcases h1 with h1 | ⟨h1, h1'⟩ <;> rcases h2 with h2 | ⟨h2, h2'⟩
  · exact .inl (by omega)
  · exact .inl (by omega)
  · exact .inl (by omega)
  · exact .inr ⟨by omega, List.le_trans h2' h1'⟩
theorem sym_Train.parts (x y : ByteArray × Int) (h1 : ltOf sym_Train.cf x y = false) (h2 : ltOf sym_Train.cf y x = false) : x = y := by
 rw [sym_Train.lt_false] at *
 rcases h1 with h1 | ⟨h1, h1'⟩ <;> rcases h2 with h2 | ⟨h2, h2'⟩
 · omega
 · omega
 · omega
 ·
  have e := List.le_antisymm h1' h2'
  obtain ⟨⟨⟨a⟩⟩, p⟩ := x
  obtain ⟨⟨⟨b⟩⟩, q⟩ := y
  simp at e h1
  subst e
  subst h1
  rfl
theorem sym_Train.sort_perm (a b : List (ByteArray × Int)) (h : a.Perm b) : a.mergeSort (fun x y => !(ltOf sym_Train.cf) y x) = b.mergeSort (fun x y => !(ltOf sym_Train.cf) y x) := by
 have hp : ∀ l : List (ByteArray × Int), (l.mergeSort fun x y => !(ltOf sym_Train.cf) y x).Pairwise fun x y => (!(ltOf sym_Train.cf) y x) = true := by
  intro l
  refine List.pairwise_mergeSort ?_ ?_ _
  ·
   intro a b c h1 h2
   simp only [Bool.not_eq_true'] at h1 h2 ⊢
   exact sym_Train.swo.ntrans c b a h2 h1
  ·
   intro a b
   cases h : ltOf sym_Train.cf b a with
   | false => simp
   | true => simp [sym_Train.swo.asymmA h]
 refine List.Perm.eq_of_pairwise (le := fun x y => (!(ltOf sym_Train.cf) y x) = true) ?_ (hp a) (hp b) ((List.mergeSort_perm _ _).trans (h.trans (List.mergeSort_perm _ _).symm))
 intro a b _ _ h1 h2
 simp only [Bool.not_eq_true'] at h1 h2
 exact sym_Train.parts a b h2 h1
theorem sym_Train.nodup_eraseDups : ∀ n (l : List (List UInt8)), l.length ≤ n → l.eraseDups.Nodup
 | 0, l, h => by
  have : l = [] := List.eq_nil_of_length_eq_zero (by omega)
  subst this
  simp
 | n + 1, [], h => by simp
 | n + 1, a :: l, h => by
  rw [List.eraseDups_cons, List.nodup_cons]
  have hlen : (l.filter fun b => !b == a).length ≤ n := Nat.le_trans (List.length_filter_le _ _) (by simp at h; omega)
  refine ⟨?_, sym_Train.nodup_eraseDups n _ hlen⟩
  intro hm
  rw [List.mem_eraseDups] at hm
  simp at hm
theorem sym_Train.pieces_perm (ws : List (List UInt8)) (K : List (List UInt8)) (hn : K.Nodup) (hm : ∀ y, y ∈ K ↔ y ∈ ws ∧ 1 < ws.count y) : (K.map (sym_Train.pieceOf ws)).Perm (sym_Train.pieces ws) := by
 unfold sym_Train.pieces
 refine List.Perm.map _ ?_
 rw [List.perm_ext_iff_of_nodup hn ((sym_Train.nodup_eraseDups _ ws (Nat.le_refl _)).filter _)]
 intro y
 rw [hm, List.mem_filter, List.mem_eraseDups, decide_eq_true_iff]
theorem sym_Train.keys_len : ∀ (K ws : List (List UInt8)), K.Nodup → (∀ y, y ∈ K → y ∈ ws) → K.length ≤ ws.length
 | [], ws, _, _ => Nat.zero_le _
 | a :: K, ws, hn, hm => by
  have ha : a ∈ ws := hm a (by simp)
  rw [List.nodup_cons] at hn
  have h := sym_Train.keys_len K (ws.erase a) hn.2 (fun y hy => (List.mem_erase_of_ne (by rintro rfl; exact hn.1 hy)).2 (hm y (by simp [hy])))
  have h1 := List.length_erase_of_mem ha
  have h2 := List.length_pos_of_mem ha
  simp
  omega
theorem sym_Train.heap_put {w : World} {g n : Nat} {os : Array Obj} {cur : Array Value} {e : TypeId} {fr : Nat × Nat} (d : Array Value) (hb : w.heap[g]? = some (.cells cur e fr)) :
  (grow (putRow id (Sort.ahead w n) g 0 d) os).heap[g]? = some (.cells (putCells id 0 d cur) e fr) := by
 have hg : g < w.heap.size := (Array.getElem?_eq_some_iff.1 hb).1
 rw [heap_grow_old _ _ (by simpa using hg)]
 simp [putRow, mapBlock, Sort.ahead, Array.getElem?_modify, hb, onCells]
theorem sym_Train.grown_put {w : World} {g n : Nat} {os : Array Obj} (d : Array Value) : w.grownBy (grow (putRow id (Sort.ahead w n) g 0 d) os) (some g) := by
 refine ⟨rfl, rfl, rfl, by simp, fun k hk hne => ?_⟩
 rw [heap_grow_old _ _ (by simpa using hk)]
 have : g ≠ k := fun e => hne (by rw [e])
 simp [putRow, mapBlock, Sort.ahead, Array.getElem?_modify, this]
theorem sym_Train.take_put (cur d : Array Value) (h : d.size ≤ cur.size) : (putCells id 0 d cur).toList.take d.size = d.toList := by
 apply List.ext_getElem?
 intro j
 by_cases hj : j < d.size
 ·
  rw [List.getElem?_take_of_lt hj, Array.getElem?_toList, Array.getElem?_toList]
  simp [putCells, hj, show j < cur.size by omega]
 · rw [List.getElem?_take_eq_none (by omega), List.getElem?_eq_none (by simp; omega)]
theorem sym_Train.pair_M {w : World} {base : Nat} {ok : Nat → Prop} {x : ByteArray × Int} {cs : List Value} : (Kd.pair Kd.string (Kd.int .i64)).M w base ok x cs ↔ cs = sym_Train.encP x := by
 constructor
 ·
  rintro ⟨c0, c1, rfl, h0, h1⟩
  have e0 : c0 = [.string x.1] := h0
  have e1 : c1 = [.int .i64 x.2] := h1
  rw [e0, e1]
  rfl
 ·
  rintro rfl
  exact ⟨[.string x.1], [.int .i64 x.2], rfl, rfl, rfl⟩
theorem sym_Train.holds_pairs {w : World} {g : Nat} {cur : Array Value} {e : TypeId} {L : List (ByteArray × Int)} {inner : List Value} {base : Nat} {ok : Nat → Prop} (hb : w.heap[g]? = some (.cells cur e (0, 0))) (ht : cur.toList.take (L.length * 2) = inner)
  (hr : Reps ((Kd.pair Kd.string (Kd.int .i64)).M w base ok) 2 L inner) : HoldsK sym_Train.encP 2 w g 0 L.toArray := by
 intro j hj
 have hj' : j < L.length * 2 := by simpa using hj
 refine ⟨?_, by simp [World.frozen?, hb]⟩
 have h1 : (cur.toList.take (L.length * 2))[j]? = inner[j]? := by rw [ht]
 rw [List.getElem?_take_of_lt hj', Array.getElem?_toList] at h1
 have hq : j / 2 < L.length := by omega
 have h2 := sym_Train.pair_M.1 (hr.2 (j / 2) L[j / 2] (List.getElem?_eq_getElem hq))
 have h3 : inner[j]? = (sym_Train.encP L[j / 2])[j % 2]? := by
  rw [← h2, List.getElem?_take_of_lt (by omega), List.getElem?_drop]
  congr 1
  omega
 have h4 : (flatK sym_Train.encP 2 L.toArray)[j]! = (sym_Train.encP L[j / 2])[j % 2]! := by
  rw [get_flatK _ _ _ _ (by simpa using hj')]
  simp [hq]
 have h5 : j % 2 < (sym_Train.encP L[j / 2]).length := by show j % 2 < 2; omega
 simp only [World.cell?, hb, Nat.zero_add]
 simp only [Option.isSome_none, Bool.false_eq_true, if_false]
 rw [h1, h3, h4, List.getElem?_eq_getElem h5]
 simp [h5]
theorem sym_Train.reps_flat (w : World) (base : Nat) (ok : Nat → Prop) (L : List (ByteArray × Int)) : Reps ((Kd.pair Kd.string (Kd.int .i64)).M w base ok) 2 L (flatK sym_Train.encP 2 L.toArray).toList := by
 refine ⟨by simp, fun j p hp => sym_Train.pair_M.2 ?_⟩
 obtain ⟨hj, rfl⟩ := List.getElem?_eq_some_iff.1 hp
 apply List.ext_getElem?
 intro i
 by_cases hi : i < 2
 ·
  rw [List.getElem?_take_of_lt hi, List.getElem?_drop, Array.getElem?_toList]
  have hs : j * 2 + i < (flatK sym_Train.encP 2 L.toArray).size := by simp; omega
  have h5 : i < (sym_Train.encP L[j]).length := hi
  have e := get_flatK sym_Train.encP 2 L.toArray (j * 2 + i) (by simpa using hs)
  rw [getElem!_pos (flatK sym_Train.encP 2 L.toArray) (j * 2 + i) hs] at e
  rw [Array.getElem?_eq_getElem hs, e, List.getElem?_eq_getElem h5, show (j * 2 + i) / 2 = j by omega, show (j * 2 + i) % 2 = i by omega]
  simp [hj, h5]
 · rw [List.getElem?_take_eq_none (by omega), List.getElem?_eq_none (by show 2 ≤ i; omega)]
theorem sym_Train.sorted_pairs {w w0 : World} {base g cap n : Nat} {os : Array Obj} {cur : Array Value} {L ts : List (ByteArray × Int)} (hl : ts.length = L.length) (hbase : base ≤ g) (hb : w.heap[g]? = some (.cells cur 68 (0, 0)))
  (h1 : L.length ≤ cap) (h2 : cap ≤ maxLen) (h3 : cur.size = cap * 2) (hB : Below base w0 w) (hs : base ≤ w.heap.size) :
  Kd.R (Kd.pair Kd.string (Kd.int .i64)) 68 (sortWorldK sym_Train.encP 2 w g 0 n ts.toArray os) base (fun _ => True) (.slice (some ⟨g, 0, none⟩) L.length cap) ts ∧ Below base w0 (sortWorldK sym_Train.encP 2 w g 0 n ts.toArray os) := by
 unfold sortWorldK putRowK
 refine ⟨⟨fun _ _ => trivial, (flatK sym_Train.encP 2 ts.toArray).toList, ?_, sym_Train.reps_flat _ _ _ _⟩, hB.grown (sym_Train.grown_put _) hs (fun k hk => by injection hk with hk; omega)⟩
 rw [hl]
 refine ⟨by simp [hl]; rfl, .inr ⟨g, cap, _, rfl, hbase, sym_Train.heap_put _ hb, h1, h2, by simp [putCells, h3]; rfl, ?_⟩⟩
 have h := sym_Train.take_put cur (flatK sym_Train.encP 2 ts.toArray) (by simp [hl, h3]; omega)
 rw [size_flatK] at h
 rw [← h]
 simp [hl]
 rfl
set_option maxHeartbeats 4000000 in
theorem sym_Train.sortC {base : Nat} {v : Value} {L : List (ByteArray × Int)} (w0 W : World) (hR : Kd.R (Kd.pair Kd.string (Kd.int .i64)) 68 W base (fun _ => True) v L) (hB : Below base w0 W) (hs : base ≤ W.heap.size) (hl : L.length < 4611686018427387904) :
  Calls Try.prog 41 #[v, .func (.func 42) #[] #[]] W fun e w' => e = .returned (.tuple #[]) ∧ Kd.R (Kd.pair Kd.string (Kd.int .i64)) 68 w' base (fun _ => True) v (L.mergeSort fun x y => !(ltOf sym_Train.cf) y x) ∧ Below base w0 w' := by
 obtain ⟨_, inner, hown, hr⟩ := hR
 rcases hown.2 with ⟨rfl, hn⟩ | ⟨g, cap, cur, rfl, hbase, hb, h1, h2, h3, h4⟩
 ·
  have e := List.eq_nil_of_length_eq_zero hn
  subst e
  have hcon := AnyF.slices_SortFunc_none Try.sort41 none 0 (.func (.func 42) #[] #[]) W
  change Calls Try.prog 41 _ _ _ at hcon
  refine hcon.mono ?_
  rintro e w' ⟨rfl, rfl⟩
  exact ⟨rfl, by simpa using Kd.R_nil _ _ _ _ _, hB⟩
 ·
  have eg : ∀ args w, (callFunc 42 args).run Try.prog w = .ok (.enter 42 args) w := enters_of Try.func42 (by kernel_rfl) rfl
  have hcmp : CmpLays Try.prog 42 #[] sym_Train.encP 2 sym_Train.cf g 0 L.toArray.size W := fun _ _ _ _ x y => sym_Train.closure x y _
  have hcon := AnyQ.slices_SortFunc_total Try.sort41 2 Try.isAgg68 Try.sizeOf68 sym_Train.encP (fun _ => rfl) (fun x u hu => by simp [sym_Train.encP] at hu; rcases hu with rfl | rfl <;> rfl) sym_Train.cf sym_Train.swo 42 #[] g 0 cap L.toArray W eg hcmp (sym_Train.holds_pairs hb h4 hr) (Array.getElem?_eq_some_iff.1 hb).1 (by simpa using hl) sym_Train.parts
  change Calls Try.prog 41 _ _ _ at hcon
  refine hcon.mono ?_
  rintro e w' ⟨rfl, n, os, rfl⟩
  have h := sym_Train.sorted_pairs (n := n) (os := os) (ts := L.mergeSort fun x y => !(ltOf sym_Train.cf) y x) (L := L) (by simp) hbase hb h1 h2 h3 hB hs
  exact ⟨rfl, h.1, h.2⟩
end
theorem sym_Train.winN_len (s : ByteArray) (i : Nat) : ∀ f n, (sym_Train.winN s i f n).length ≤ f
 | 0, _ => Nat.le_refl _
 | f + 1, n => by
  unfold sym_Train.winN
  split
  ·
   have := sym_Train.winN_len s i f (n + 1)
   simp
   omega
  · simp
theorem sym_Train.winI_len (s : ByteArray) : ∀ f i, (sym_Train.winI s f i).length ≤ 7 * f
 | 0, _ => Nat.le_refl _
 | f + 1, i => by
  unfold sym_Train.winI
  split
  ·
   have := sym_Train.winN_len s i 7 2
   have := sym_Train.winI_len s f (i + 1)
   rw [List.length_append]
   omega
  · simp
theorem sym_Train.cut_size (b : List Int) (left : Nat) : (sym_Train.cut b left).size = min left b.length := by
 unfold sym_Train.cut
 rw [strOfNums_size, List.length_take]
 omega
theorem sym_Train.winL_len : ∀ l left, (sym_Train.winL l left).length ≤ 7 * left
 | [], _ => Nat.zero_le _
 | b :: r, left => by
  unfold sym_Train.winL
  have := sym_Train.winI_len (sym_Train.cut b left) (sym_Train.cut b left).size 0
  have := sym_Train.winL_len r (left - (sym_Train.cut b left).size)
  have := sym_Train.cut_size b left
  rw [List.length_append]
  omega
theorem sym_Train.key_str {P : Program} {k : TypeId} (hk : P.underlying k = some .string) {x : ByteArray} {kl : Lit} (hkey : keyOf P k (.string x) = some kl) : kl = .string x.data.toList := by
 unfold keyOf at hkey
 rw [hk] at hkey
 unfold mapKey at hkey
 rw [hk] at hkey
 dsimp only at hkey
 split at hkey
 ·
  injection hkey with h
  exact h.symm
 · cases hkey
theorem sym_Train.next_si {H : Type} {P : Program} (w : World) {ops : Array Oper} {rest : List Oper} {o : Oper} {a : Act} {Q : Exit → Act → World → Prop}
  (hg : o.guard = none) (it : Operand) (hop : o.op = Op.next it false) (k e : TypeId) (qe : IntKind) (hk : P.underlying k = some .string) (he : P.underlying e = some (.int qe))
  (b r n : Nat) (D : DataW H) (left : Lit → Bool) (cnt : Nat) (hit : a.eval it = .pointer (some ⟨r, 0, none⟩)) (h : w.ranges P k (plainElem P e) b r n D left cnt)
  (hDone : cnt = 0 → (∀ kl, left kl = false) → wpList P ops Q rest (a.put o.dst (.tuple #[.bool false])) w)
  (hMore : ∀ (x : ByteArray) (c : Int) (w' : World) (cnt' : Nat), left (.string x.data.toList) = true → (∀ zd, D.atKey (.string x.data.toList) zd = .lit (.int qe c)) → w'.ranges P k (plainElem P e) b r n D (fun z => left z && !z.sameKey (.string x.data.toList)) cnt' → cnt' < cnt →
   w.grownBy w' (some r) → w'.heap.size = w.heap.size → (Instr.entry (.pointer (some ⟨r, 0, none⟩))).run P w' = .ok (.tuple #[.string x, .int qe c]) w' → wpList P ops Q rest (a.put o.dst (.tuple #[.bool true, .string x, .int qe c])) w') :
  wpList P ops Q (o :: rest) a w :=
 wpList_next_ranges w hg it hop k (Maps.string_keyed hk) (plainElem P e) Value.string (Value.int qe) (fun key kl hkey => Maps.keyOf_string_inv hk hkey) (fun v y hv => by obtain ⟨c, rfl, _⟩ := plainElem_int_inv he hv; exact ⟨c, rfl⟩)
  b r n D left cnt hit h hDone (fun x c kl y w' cnt' hkey hlk hv hat hrg hlt hgr hsz hen => by
   have e1 : kl = .string x.data.toList := sym_Train.key_str hk hkey
   subst e1
   obtain ⟨c', ec, rfl, hwc⟩ := plainElem_int_inv he hv
   cases ec
   exact hMore x c w' cnt' hlk hat hrg hlt hgr hsz hen)
theorem sym_Train.winN_mem (s : ByteArray) (i : Nat) : ∀ f n y, y ∈ sym_Train.winN s i f n → y.length ≤ 8
 | 0, _, y, h => by simp [sym_Train.winN] at h
 | f + 1, n, y, h => by
  unfold sym_Train.winN at h
  split at h
  ·
   rename_i hn
   rcases List.mem_cons.1 h with h | h
   ·
    have e : (s.extract i (i + n)).data.toList.length = (s.extract i (i + n)).size := Array.length_toList
    rw [h, e, ByteArray.size_extract]
    omega
   · exact sym_Train.winN_mem s i f (n + 1) y h
  · simp at h
theorem sym_Train.winI_mem (s : ByteArray) : ∀ f i y, y ∈ sym_Train.winI s f i → y.length ≤ 8
 | 0, _, y, h => by simp [sym_Train.winI] at h
 | f + 1, i, y, h => by
  unfold sym_Train.winI at h
  split at h
  ·
   rcases List.mem_append.1 h with h | h
   · exact sym_Train.winN_mem s i 7 2 y h
   · exact sym_Train.winI_mem s f (i + 1) y h
  · simp at h
theorem sym_Train.winL_mem : ∀ l left y, y ∈ sym_Train.winL l left → y.length ≤ 8
 | [], _, y, h => by simp [sym_Train.winL] at h
 | b :: r, left, y, h => by
  unfold sym_Train.winL at h
  rcases List.mem_append.1 h with h | h
  · exact sym_Train.winI_mem _ _ _ y h
  · exact sym_Train.winL_mem r _ y h
theorem sym_Train.keys_step {all K : List (List UInt8)} {left : Lit → Bool} {y : List UInt8} (h : K.Nodup ∧ (∀ z, z ∈ K ↔ z ∈ all ∧ 1 < all.count z ∧ left (.string z) = false) ∧ ∀ z, left (.string z) = true → z ∈ all) (hl : left (.string y) = true) (hc : 1 < all.count y) :
  (K ++ [y]).Nodup ∧ (∀ z, z ∈ K ++ [y] ↔ z ∈ all ∧ 1 < all.count z ∧ (left (.string z) && !(Lit.string z).sameKey (.string y)) = false) ∧ ∀ z, (left (.string z) && !(Lit.string z).sameKey (.string y)) = true → z ∈ all := by
 obtain ⟨h1, h2, h3⟩ := h
 have hs : ∀ z, (Lit.string z).sameKey (.string y) = (z == y) := fun _ => rfl
 refine ⟨?_, fun z => ?_, fun z hz => ?_⟩
 ·
  rw [List.nodup_append]
  refine ⟨h1, by simp, fun a ha b hb hab => ?_⟩
  rw [List.mem_singleton] at hb
  subst hb
  subst hab
  have := ((h2 a).1 ha).2.2
  rw [hl] at this
  cases this
 ·
  rw [List.mem_append, List.mem_singleton, h2, hs]
  by_cases hz : z = y
  ·
   subst hz
   simp [h3 z hl, hc]
  ·
   have hb : (z == y) = false := beq_eq_false_iff_ne.mpr hz
   simp [hz, hb]
 ·
  rw [Bool.and_eq_true] at hz
  exact h3 z hz.1
theorem sym_Train.keys_skip {all K : List (List UInt8)} {left : Lit → Bool} {y : List UInt8} (h : K.Nodup ∧ (∀ z, z ∈ K ↔ z ∈ all ∧ 1 < all.count z ∧ left (.string z) = false) ∧ ∀ z, left (.string z) = true → z ∈ all) (hl : left (.string y) = true) (hc : ¬ 1 < all.count y) :
  K.Nodup ∧ (∀ z, z ∈ K ↔ z ∈ all ∧ 1 < all.count z ∧ (left (.string z) && !(Lit.string z).sameKey (.string y)) = false) ∧ ∀ z, (left (.string z) && !(Lit.string z).sameKey (.string y)) = true → z ∈ all := by
 obtain ⟨h1, h2, h3⟩ := h
 have hs : ∀ z, (Lit.string z).sameKey (.string y) = (z == y) := fun _ => rfl
 refine ⟨h1, fun z => ?_, fun z hz => ?_⟩
 ·
  rw [h2, hs]
  by_cases hz : z = y
  ·
   subst hz
   simp [hc]
  ·
   have hb : (z == y) = false := beq_eq_false_iff_ne.mpr hz
   simp [hb]
 ·
  rw [Bool.and_eq_true] at hz
  exact h3 z hz.1
set_option maxHeartbeats 8000000 in
set_option maxRecDepth 100000 in
theorem sym_Train.calls (A0 : Option Addr) (c0 : Nat) (l0 : List (List Int)) (r : List ByteArray) (w : World) (hr0 : Kd.C (Kd.slice 5 (Kd.int .u8)) w A0 l0.length l0) (hc0 : l0.length ≤ c0) (h : sym_Train.f l0 = some r) :
  Calls Try.prog 18 #[.slice A0 l0.length c0] w fun e w' => ∃ v0_ : Value, e = .returned (v0_) ∧ Kd.R Kd.string 9 w' w.heap.size (fun _ => True) v0_ r ∧ Below w.heap.size w w' := by
 have HR0 := aM hr0
 have HC0 := aM hc0
 clear hr0 hc0
 have HB := aM (Below.refl w.heap.size w)
 have HI68 : Aside0 ((Try.prog.info? 68).map (fun i => (i.zero, i.size, i.bytes)) = some (some (.agg #[.string ⟨#[]⟩, .int .i64 0]), 2, 24)) := ⟨by kernel_rfl⟩
 have HI9 : Aside0 ((Try.prog.info? 9).map (fun i => (i.zero, i.size, i.bytes)) = some (some (.string ⟨#[]⟩), 1, 16)) := ⟨by kernel_rfl⟩
 have HT : Aside0 (Try.prog.underlying 65 = some (.map 9 3)) := ⟨by kernel_rfl⟩
 have HE : Aside0 (Try.prog.underlying 3 = some (.int .i64)) := ⟨by kernel_rfl⟩
 have HS : Aside0 (Try.prog.underlying 9 = some .string) := ⟨by kernel_rfl⟩
 have HZ : Aside0 (∀ w : World, (zeroValue 3).run Try.prog w = .ok (.int .i64 0) w) := ⟨fun w => by kernel_rfl⟩
 obtain ⟨i05, hi05', _, hsz5', _⟩ := info_parts info5
 have HI5 := aM hi05'
 have HSZ5 := aM hsz5'
 clear hi05' hsz5'
 unfold sym_Train.f at h
 split at h
 case isFalse => exact absurd h (by simp)
 case isTrue hlim =>
 have HLIM := aM hlim
 have HV := aM (Option.some.inj h)
 clear h hlim
 obtain ⟨all, hall⟩ : ∃ all, sym_Train.winL l0 1024 = all := ⟨_, rfl⟩
 have HALL : Aside0 (sym_Train.winL l0 1024 = all ∧ all.length ≤ 7168 ∧ ∀ y ∈ all, y.length ≤ 8) := ⟨hall, by rw [← hall]; exact sym_Train.winL_len l0 1024, by rw [← hall]; exact sym_Train.winL_mem l0 1024⟩
 rw [hall] at HV
 clear hall
 have hmm := @run_makeMap Try.prog
 go_enter Try.func18, Try.ntmps18
 go_wp2
 go_loopg [4, 19] l0.length (fun kq v4 v19 w' => ∃ (lf i : Int) (ds : List (List UInt8)), v4 = .int .i64 lf ∧ v19 = .int .i64 i ∧ Aside0 (0 ≤ lf ∧ lf ≤ 1024 ∧ 0 ≤ i ∧ (kq : Int) + i = l0.length) ∧ Aside0 (ds ++ sym_Train.winL (l0.drop i.toNat) lf.toNat = all) ∧ Aside0 (MapF Try.prog 9 3 Lit.string (Lit.int .i64) w' w.heap.size ds.length (sym_Train.cnt ds)) ∧ Aside0 (Below w.heap.size w w'))
 case atStart => exact ⟨1024, 0, [], rfl, rfl, ⟨by omega⟩, ⟨by simpa using HALL.out.1⟩, ⟨by rw [sym_Train.cnt_nil]; exact MapF.made _ _ _ _ _ _⟩, ⟨below_alloc (Below.refl _ _) _⟩⟩
 case round =>
  clear HB hmm
  obtain ⟨lf, i, ds, rfl, rfl, HI, HD, HM, HB⟩ := hrel
  cases gk with
  | succ k1 =>
   have d1 : decide (i < (l0.length : Int)) = true := decide_eq_true (by have := HI.out; omega)
   have p1 : 0 ≤ i := HI.out.2.2.1
   have q1 : i < (l0.length : Int) := by have := HI.out; omega
   obtain ⟨ad, cs, rfl, _, hK, hcell⟩ := Kd.C_get (Kd.C_below HR0.out HB.out) [] i p1 q1
   obtain ⟨b, hb⟩ : ∃ b, b = l0.getD i.toNat [] := ⟨_, rfl⟩
   rw [← hb] at hK
   obtain ⟨Ab, cb, rfl, hlb, hCb⟩ := hK
   have hx := hcell 0 _ rfl
   have e0 : ad.add (i.toNat * Kd.sz (Kd.slice 5 (Kd.int .u8)) + 0) = ad.add i.toNat := by rw [show Kd.sz (Kd.slice 5 (Kd.int .u8)) = 1 from rfl, Nat.mul_one, Nat.add_zero]
   rw [e0] at hx
   clear e0 hcell
   have HD1 : Aside0 (ds ++ (sym_Train.winI (sym_Train.cut b lf.toNat) (sym_Train.cut b lf.toNat).size 0 ++ sym_Train.winL (l0.drop (i.toNat + 1)) (lf.toNat - (sym_Train.cut b lf.toNat).size)) = all) := ⟨by
    have h := HD.out
    rw [List.drop_eq_getElem_cons (by omega)] at h
    have e : l0[i.toNat]'(by omega) = b := by rw [hb, List.getD_eq_getElem?_getD, List.getElem?_eq_getElem (by omega)]; rfl
    rw [e, sym_Train.winL] at h
    exact h⟩
   clear hb HD
   obtain ⟨mi, hmi⟩ : ∃ m : Int, (if (b.length : Int) < lf then (b.length : Int) else lf) = m := ⟨_, rfl⟩
   have HMI : Aside0 (0 ≤ mi ∧ mi ≤ b.length ∧ mi.toNat = min lf.toNat b.length) := ⟨by have := HI.out; rw [← hmi]; split <;> omega⟩
   have hcut := cut_to (P := Try.prog) 22 5 .i64 Try.underlying22 HI5.out Ab b.length cb mi HMI.out.1 HMI.out.2.1 hlb
   obtain ⟨y, hy⟩ : ∃ y, y = b.take mi.toNat := ⟨_, rfl⟩
   have hyl : mi.toNat = y.length := by rw [hy, List.length_take]; have := HMI.out; omega
   rw [hyl] at hcut
   have hCy : Kd.C (Kd.int .u8) wr Ab y.length y := by rw [hy]; exact Kd.C_take hCb (by have := HMI.out; omega)
   have hcv := Kd.C_string (P := Try.prog) (A := Ab) (c := cb) Try.underlying22 Try.underlying5 Try.underlying9 hCy
   obtain ⟨s, hs⟩ : ∃ s, s = strOfNums y := ⟨_, rfl⟩
   rw [← hs] at hcv
   have HSY : Aside0 (s = sym_Train.cut b lf.toNat ∧ s.size ≤ 1024 ∧ s.size ≤ lf.toNat) := ⟨by
    have e : s = sym_Train.cut b lf.toNat := by unfold sym_Train.cut; rw [hs, hy, HMI.out.2.2]
    have h1 := sym_Train.cut_size b lf.toNat
    rw [← e] at h1
    have := HI.out
    exact ⟨e, by omega, by omega⟩⟩
   rw [← HSY.out.1] at HD1
   have g1 := eq_true p1
   have g2 := eq_true q1
   have g3 := eq_true HMI.out.1
   have g4 := eq_true HMI.out.2.1
   have g5 : decide (0 ≤ mi) = true := decide_eq_true HMI.out.1
   clear hy hyl hCy hs p1 q1 hlb hCb
   obtain ⟨rest, hrest⟩ : ∃ rest, rest = sym_Train.winL (l0.drop (i.toNat + 1)) (lf.toNat - s.size) := ⟨_, rfl⟩
   rw [← hrest] at HD1
   have HREST := aM hrest
   clear hrest
   have hx2 : wr.cell? (ad.add i.toNat) = some (.slice Ab b.length cb) := hx
   clear hx2
   go_wp2
   clear hx hcut hcv g1 g2 g3 g4 g5 hmi
   go_loopg [36] s.size (fun kq v36 w' => ∃ (ix : Int) (ds : List (List UInt8)), v36 = .int .i64 ix ∧ Aside0 (0 ≤ ix ∧ (kq : Int) + ix = s.size) ∧ Aside0 (ds ++ (sym_Train.winI s kq ix.toNat ++ rest) = all) ∧ Aside0 (MapF Try.prog 9 3 Lit.string (Lit.int .i64) w' w.heap.size ds.length (sym_Train.cnt ds)) ∧ Aside0 (Below w.heap.size w w'))
   case atStart => exact ⟨0, ds, rfl, ⟨by omega⟩, HD1, HM, HB⟩
   case round =>
    clear HD1 HM HB
    obtain ⟨ix, ds, rfl, HX, HD, HM, HB⟩ := hrel
    cases gk with
    | zero =>
     have d2 : decide (ix < (s.size : Int)) = false := decide_eq_false (by have := HX.out; omega)
     go_wp2
     go_roundg k1
     case measure => omega
     case rel =>
      have hi := HI.out
      have hsy := HSY.out
      have hw1 : wrap64 (lf - (s.size : Int)) = lf - s.size := by unfold wrap64; omega
      have hw2 : wrap64 (i + 1) = i + 1 := by have := HLIM.out; unfold wrap64; omega
      have hn1 : (i + 1).toNat = i.toNat + 1 := by omega
      have hn2 : (lf - (s.size : Int)).toNat = lf.toNat - s.size := by omega
      have hd := HD.out
      refine ⟨lf - s.size, i + 1, ds, by rw [hw1], by rw [hw2], ⟨by omega⟩, ⟨?_⟩, HM, HB⟩
      rw [hn1, hn2, ← HREST.out]
      simpa [sym_Train.winI] using hd
    | succ k2 =>
     have d2 : decide (ix < (s.size : Int)) = true := decide_eq_true (by have := HX.out; omega)
     have HD1 : Aside0 (ds ++ (sym_Train.winN s ix.toNat 7 2 ++ (sym_Train.winI s k2 (ix.toNat + 1) ++ rest)) = all) := ⟨by
      have h := HD.out
      rw [sym_Train.winI, if_pos (by have := HX.out; omega)] at h
      simpa [List.append_assoc] using h⟩
     clear HD
     obtain ⟨rest2, hrest2⟩ : ∃ r, r = sym_Train.winI s k2 (ix.toNat + 1) ++ rest := ⟨_, rfl⟩
     rw [← hrest2] at HD1
     have HREST2 := aM hrest2
     clear hrest2
     go_wp2
     go_loopg [9] 7 (fun kq v9 w' => ∃ (n : Int) (ds : List (List UInt8)), v9 = .int .i64 n ∧ Aside0 (2 ≤ n ∧ (kq : Int) + n = 9) ∧ Aside0 (ds ++ (sym_Train.winN s ix.toNat kq n.toNat ++ rest2) = all) ∧ Aside0 (MapF Try.prog 9 3 Lit.string (Lit.int .i64) w' w.heap.size ds.length (sym_Train.cnt ds)) ∧ Aside0 (Below w.heap.size w w'))
     case atStart => exact ⟨2, ds, rfl, ⟨by omega⟩, HD1, HM, HB⟩
     case round =>
      clear HD1 HM HB
      obtain ⟨n, ds, rfl, HN, HD, HM, HB⟩ := hrel
      obtain ⟨js, hjs⟩ : ∃ j : Int, wrap64 ((s.size : Int) - ix) = j := ⟨_, rfl⟩
      have HJS : Aside0 (js = (s.size : Int) - ix) := ⟨by have := HX.out; have := HSY.out; rw [← hjs]; unfold wrap64; omega⟩
      have hjsw : IntKind.i64.wrap ((s.size : Int) - ix) = js := (i64_w _).trans hjs
      obtain ⟨mi2, hmi2⟩ : ∃ m : Int, (if js < 8 then js else 8) = m := ⟨_, rfl⟩
      have HMI2 : Aside0 (mi2 = (min 8 (s.size - ix.toNat) : Nat)) := ⟨by have := HX.out; have := HJS.out; rw [← hmi2]; split <;> omega⟩
      by_cases hle : n ≤ mi2
      ·
       have d3 : decide (n ≤ mi2) = true := decide_eq_true hle
       have HLE := aM hle
       clear hle
       cases gk with
       | zero => exact absurd HLE.out (by have := HN.out; have := HMI2.out; omega)
       | succ k3 =>
       obtain ⟨je, hje⟩ : ∃ j : Int, wrap64 (ix + n) = j := ⟨_, rfl⟩
       have HJE : Aside0 (je = ix + n ∧ je ≤ s.size ∧ 0 ≤ je) := ⟨by have := HX.out; have := HN.out; have := HLE.out; have := HMI2.out; have := HSY.out; have e : je = ix + n := (by rw [← hje]; unfold wrap64; omega); omega⟩
       have hjew : IntKind.i64.wrap (ix + n) = je := (i64_w _).trans hje
       have s1 := eq_true (show 0 ≤ ix by have := HX.out; omega)
       have s2 : (ix ≤ je) = True := eq_true (by have := HJE.out; have := HN.out; omega)
       have s3 : (je ≤ (s.size : Int)) = True := eq_true HJE.out.2.1
       have s4 : decide (0 ≤ ix) = true := decide_eq_true (by have := HX.out; omega)
       have s5 : decide (ix ≤ je) = true := decide_eq_true (by have := HJE.out; have := HN.out; omega)
       have s6 : decide (je ≤ (s.size : Int)) = true := decide_eq_true HJE.out.2.1
       obtain ⟨ky, hky⟩ : ∃ ky, ky = s.extract ix.toNat je.toNat := ⟨_, rfl⟩
       have HKY : Aside0 (ky = s.extract ix.toNat (ix.toNat + n.toNat) ∧ ky.size ≤ 8) := ⟨by
        have h1 := HJE.out
        have h2 := HX.out
        have h3 := HN.out
        have e : je.toNat = ix.toNat + n.toNat := by omega
        rw [e] at hky
        refine ⟨hky, ?_⟩
        rw [hky, ByteArray.size_extract]
        omega⟩
       have hky' : s.extract ix.toNat je.toNat = ky := hky.symm
       clear hky
       have HK : Aside0 (keyOf Try.prog 9 (.string ky) = some (.string ky.data.toList)) := ⟨Go.WideMaps.keyOf_string_mk HS.out (by have := HKY.out.2; unfold maxLen; omega)⟩
       have HD1 : Aside0 ((ds ++ [ky.data.toList]) ++ (sym_Train.winN s ix.toNat k3 (n.toNat + 1) ++ rest2) = all) := ⟨by
        have h := HD.out
        rw [sym_Train.winN, if_pos (by have := HLE.out; have := HMI2.out; have := HN.out; omega), ← HKY.out.1] at h
        simpa using h⟩
       have HDL : Aside0 (ds.length ≤ 7168) := ⟨by
        have h := congrArg List.length HD.out
        rw [List.length_append] at h
        have := HALL.out.2.1
        omega⟩
       go_wp2_with (first | (at_lookup; refine map_look rfl _ _ 65 rfl (Maps.string_keyed HS.out) HT.out HE.out (HZ.out _) rfl HM.out _ ky.data.toList rfl HK.out ?_; obtain ⟨cv, hcv⟩ : ∃ c, c = (sym_Train.cnt ds ky.data.toList).getD 0 := ⟨_, rfl⟩; (rw [← hcv]); have HCV := aM hcv; clear hcv) | (at_mapUpdate; refine map_store rfl _ _ _ 65 rfl (Maps.string_keyed HS.out) HT.out rfl HM.out (by have := HDL.out; unfold maxLen; omega) (fun x y h => by injection h) _ _ ky.data.toList (wrap64 (cv + 1)) rfl rfl HK.out (plainElem_int HE.out (wrap64_wf _)) ?_; intro w2 hm1 hg1; have HM1 := aM hm1; have HB1 := aM (below_mapped HB.out hg1 (Nat.le_refl _) (below_size HB.out)); clear hm1 hg1))
       go_roundg k3
       case measure => omega
       case rel =>
        have hn := HN.out
        have hw : wrap64 (n + 1) = n + 1 := by unfold wrap64; omega
        have hnn : (n + 1).toNat = n.toNat + 1 := by omega
        have hm2 := HM1.out
        have hcw : wrap64 (cv + 1) = cv + 1 := by
         have h1 : 0 ≤ cv ∧ cv ≤ 7168 := by
          rw [HCV.out]
          unfold sym_Train.cnt
          have := List.count_le_length (a := ky.data.toList) (l := ds)
          have := HDL.out
          split <;> simp <;> omega
         unfold wrap64
         omega
        rw [hcw, HCV.out, sym_Train.cnt_bump] at hm2
        refine ⟨n + 1, ds ++ [ky.data.toList], by rw [hw], ⟨by omega⟩, ⟨by rw [hnn]; exact HD1.out⟩, ⟨by rw [List.length_append]; exact hm2⟩, HB1⟩
      ·
       have d3 : decide (n ≤ mi2) = false := decide_eq_false hle
       have HLE := aM hle
       clear hle
       have HD2 : Aside0 (ds ++ rest2 = all) := ⟨by
        have h := HD.out
        have e : sym_Train.winN s ix.toNat gk n.toNat = [] := by
         cases gk with
         | zero => rfl
         | succ k3 => rw [sym_Train.winN, if_neg (by have := HLE.out; have := HMI2.out; have := HN.out; omega)]
        rw [e] at h
        exact h⟩
       go_wp2
       go_roundg k2
       case measure => omega
       case rel =>
        have hx := HX.out
        have hsy := HSY.out
        have hw : wrap64 (ix + 1) = ix + 1 := by unfold wrap64; omega
        have hnn : (ix + 1).toNat = ix.toNat + 1 := by omega
        refine ⟨ix + 1, ds, by rw [hw], ⟨by omega⟩, ⟨?_⟩, HM, HB⟩
        have h := HD2.out
        rw [HREST2.out] at h
        rw [hnn]
        exact h
  | zero =>
   have d1 : decide (i < (l0.length : Int)) = false := decide_eq_false (by have := HI.out; omega)
   have HM2 : Aside0 (MapF Try.prog 9 3 Lit.string (Lit.int .i64) wr w.heap.size 7168 (sym_Train.cnt all)) := ⟨by
    have h := HD.out
    rw [List.drop_eq_nil_of_le (by have := HI.out; omega)] at h
    have e : ds = all := by simpa [sym_Train.winL] using h
    rw [← e]
    have := HALL.out.2.1
    rw [← e] at this
    exact HM.out.mono this⟩
   clear HM HD
   obtain ⟨D, hD, hDr⟩ := HM2.out
   go_wp2_with (first | (at_range; refine wpList_range_own _ rfl _ 65 rfl 9 3 (Maps.string_keyed HS.out) HT.out _ w.heap.size 7168 D rfl hD ?_; intro w0 hrg0 hg0 hs0) | go_in)
   go_frame
   have HS0 := aM hs0
   have HB0 := aM (HB.out.grown hg0 (below_size HB.out) (fun j hj => by cases hj))
   have HDR := aM hDr
   obtain ⟨ri, hri⟩ : ∃ r, r = wr.heap.size := ⟨_, rfl⟩
   rw [← hri] at hrg0 ⊢
   have HRG0 := aM hrg0
   have HRI : Aside0 (w.heap.size < ri) := ⟨by rw [hri]; exact HM2.out.lt⟩
   clear hri hrg0 hg0 hs0 hDr hD HB
   go_loopw [10] (fun v10 wR => ∃ (left : Lit → Bool) (cn : Nat) (K : List (List UInt8)), Aside0 (wR.ranges Try.prog 9 (plainElem Try.prog 3) w.heap.size ri 7168 D left cn) ∧ Aside0 (Kd.R (Kd.pair Kd.string (Kd.int .i64)) 68 wR w.heap.size (fun k => ri < k) v10 (K.map (sym_Train.pieceOf all))) ∧ Aside0 (K.Nodup ∧ (∀ y, y ∈ K ↔ y ∈ all ∧ 1 < all.count y ∧ left (.string y) = false) ∧ ∀ y, left (.string y) = true → y ∈ all) ∧ Aside0 (Below w.heap.size w wR)) (fun _ wR => wR.rangeLeft w.heap.size ri)
   case atStart =>
    have hl : ∀ y, Maps.has D (.string y) = true ↔ y ∈ all := fun y => by
     rw [(HDR.out y).1]
     unfold sym_Train.cnt
     split <;> simp_all
    refine ⟨_, _, [], HRG0, ⟨Kd.R_nil _ _ _ _ _⟩, ⟨List.nodup_nil, fun y => ?_, fun y hy => (hl y).1 hy⟩, HB0⟩
    constructor
    ·
     intro h
     exact absurd h (by simp)
    ·
     rintro ⟨h1, _, h2⟩
     rw [(hl y).2 h1] at h2
     cases h2
   case round =>
    clear HRG0 HB0
    obtain ⟨left, cn, K, HR9, HK9, HM9, HB9⟩ := hrel
    go_wp2_with (first | (at_next; refine sym_Train.next_si _ rfl _ rfl 9 3 .i64 HS.out HE.out w.heap.size ri 7168 _ _ _ rfl HR9.out ?_ ?_) | go_in)
    ·
     intro hc0 hl0
     have HMe : Aside0 ((sym_Train.pieces all).mergeSort (fun x y => !(ltOf sym_Train.cf) y x) = (K.map (sym_Train.pieceOf all)).mergeSort (fun x y => !(ltOf sym_Train.cf) y x) ∧ K.length ≤ 7168) := ⟨(sym_Train.sort_perm _ _ (sym_Train.pieces_perm all K HM9.out.1 (fun y => by rw [HM9.out.2.1 y, hl0]; simp))).symm, Nat.le_trans (sym_Train.keys_len K all HM9.out.1 (fun y hy => ((HM9.out.2.1 y).1 hy).1)) HALL.out.2.1⟩
     obtain ⟨S, hS⟩ : ∃ S, S = (K.map (sym_Train.pieceOf all)).mergeSort (fun x y => !(ltOf sym_Train.cf) y x) := ⟨_, rfl⟩
     obtain ⟨m, hm⟩ : ∃ m, m = (K.map (sym_Train.pieceOf all)).length := ⟨_, rfl⟩
     have HS9 : Aside0 (S.length = m ∧ m ≤ 7168 ∧ (S.take 32).map Prod.fst = r) := ⟨by rw [hS, hm, List.length_mergeSort], by rw [hm, List.length_map]; exact HMe.out.2, by rw [hS, ← HMe.out.1]; exact HV.out⟩
     have hcon := sym_Train.sortC w wr (Kd.R_mono HK9.out (fun _ _ => trivial)) HB9.out (below_size HB9.out) (by rw [← hm]; have := HS9.out.2.1; omega)
     obtain ⟨A9, c9, hu⟩ := Kd.R_slice HK9.out
     rw [← hm] at hu
     subst hu
     rw [← hS] at hcon
     have HCON := aM hcon
     clear hcon hc0 hl0 hS hm HMe HR9 HM9
     obtain ⟨mi, hmi⟩ : ∃ q : Int, (if (m : Int) < 32 then (m : Int) else 32) = q := ⟨_, rfl⟩
     have HMI : Aside0 (0 ≤ mi ∧ mi ≤ m ∧ mi ≤ 32 ∧ mi.toNat = min 32 m) := ⟨by rw [← hmi]; split <;> omega⟩
     have hCR : m ≤ c9 := (Kd.R_reads' HK9.out).2.1
     have HA9 : Aside0 (∀ ad, A9 = some ad → ∃ g, ad = ⟨g, 0, none⟩) := ⟨by
      obtain ⟨inner, hown⟩ := Kd.R_own HK9.out
      intro ad hA
      rcases hown.2 with ⟨h0, _⟩ | ⟨g, cap, cur, h0, _⟩
      ·
       injection h0 with h0
       rw [hA] at h0
       cases h0
      ·
       injection h0 with h0
       rw [hA] at h0
       injection h0 with h0
       exact ⟨g, h0⟩⟩
     obtain ⟨i68, hi68, _, hsz68, _⟩ := info_parts HI68.out
     have hcut := cut_to (P := Try.prog) 66 68 .i64 Try.underlying66 hi68 A9 m c9 mi HMI.out.1 HMI.out.2.1 hCR
     obtain ⟨n9, hn9⟩ : ∃ n, n = mi.toNat := ⟨_, rfl⟩
     have HN9 : Aside0 ((n9 : Int) = mi ∧ n9 = min 32 m) := ⟨by have := HMI.out; omega, by rw [hn9]; exact HMI.out.2.2.2⟩
     rw [← hn9] at hcut
     have g3 := eq_true HMI.out.1
     have g4 := eq_true HMI.out.2.1
     have g5 : decide (0 ≤ mi) = true := decide_eq_true HMI.out.1
     clear hn9 hi68 hsz68 hCR HK9
     go_wp2_with (go_at_call 41; refine HCON.out.mono ?_; rintro e w9 ⟨rfl, hk9, hb9⟩)
     have HK9 := aM (Kd.R_reads' hk9).2.2
     have HB9 := aM hb9
     clear hk9 hb9 hcut g3 g4 g5 hmi
     go_loopg [13, 86] n9 (fun kq v13 v86 w' => ∃ (ix : Int), v86 = .int .i64 ix ∧ Aside0 (0 ≤ ix ∧ (kq : Int) + ix = n9) ∧ Aside0 (Kd.R Kd.string 9 w' w9.heap.size (fun _ => True) v13 ((S.take ix.toNat).map Prod.fst)) ∧ Aside0 (Below w9.heap.size w9 w'))
     case atStart => exact ⟨0, rfl, ⟨by omega⟩, ⟨by simpa using Kd.R_nil _ _ _ _ _⟩, ⟨Below.refl _ _⟩⟩
     case round =>
      obtain ⟨ix, rfl, HX, HO, HBB⟩ := hrel
      cases gk with
      | zero =>
       have d2 : decide (ix < (n9 : Int)) = false := decide_eq_false (by have := HX.out; omega)
       go_wp2
       go_ret
       refine ⟨_, rfl, ?_, below_step HB9.out HBB.out⟩
       have hv := HO.out
       have hx := HX.out
       have hn := HN9.out
       have hs := HS9.out
       have e : S.take ix.toNat = S.take 32 := by
        rcases Nat.lt_or_ge S.length 32 with h | h
        · rw [List.take_of_length_le (by omega), List.take_of_length_le (by omega)]
        · rw [show ix.toNat = 32 by omega]
       rw [e, hs.2.2] at hv
       exact Kd.R_lower hv (below_size HB9.out)
      | succ k2 =>
       have d2 : decide (ix < (n9 : Int)) = true := decide_eq_true (by have := HX.out; omega)
       have p1 : 0 ≤ ix := HX.out.1
       have q1 : ix < (n9 : Int) := by have := HX.out; omega
       obtain ⟨ad, cs, rfl, hcl, hK, hcell⟩ := Kd.C_get (Kd.C_below HK9.out HBB.out) (⟨#[]⟩, 0) ix p1 (by have := HX.out; have := HN9.out; have := HS9.out.1; omega)
       obtain ⟨p, hp⟩ : ∃ p, p = S.getD ix.toNat (⟨#[]⟩, 0) := ⟨_, rfl⟩
       rw [← hp] at hK
       have HP := aM hp
       clear hp
       obtain ⟨c1, c2, rfl, hc1, hc2⟩ := hK
       have e1 : c1 = [.string p.1] := hc1
       have e2 : c2 = [.int .i64 p.2] := hc2
       subst e1
       subst e2
       obtain ⟨g, rfl⟩ := HA9.out ad rfl
       have esz : (Kd.pair Kd.string (Kd.int .i64)).sz = 2 := rfl
       have hx0 := hcell 0 _ rfl
       have hx1 := hcell 1 _ rfl
       rw [esz] at hx0 hx1
       have ea : ∀ k, (⟨g, 0, none⟩ : Addr).add k = ⟨g, k, none⟩ := fun k => by unfold Addr.add; split <;> simp_all
       rw [ea] at hx0 hx1
       have hy0 : wr.cell? ⟨g, ix.toNat * 2, none⟩ = some (.string p.1) := hx0
       have hy1 : wr.cell? ⟨g, ix.toNat * 2 + 1, none⟩ = some (.int .i64 p.2) := hx1
       clear ea
       clear hx0 hx1 esz
       clear hcell hc1 hc2 hcl
       go_wp2_with (first | (at_builtin; (refine Kd.R_append Kd.string (w0 := w9) w9.heap.size rfl (.tmp 90) (.tmp 93) 42 9 (.string ⟨#[]⟩) 16 rfl Try.underlying42 HI9.out rfl (by decide) (by omega) _ ((S.take ix.toNat).map Prod.fst) p.1 [.string p.1] (fun _ => True) (fun _ => False) rfl (congrArg (fun n => Value.slice (some ⟨n, 0, none⟩) 1 1) (World.size_alloc _ _).symm) ?aP (fun _ hk => hk.elim) ?aF ?aO ?aB ?aS ?aL ?_)))
       (case aP => exact rfl)
       (case aF => exact fun _ _ => trivial)
       (case aO => (with_reducible repeat (first | apply Kd.R_alloc | apply Kd.R_drewN | apply Kd.R_drew)); exact HO.out)
       (case aB => exact below_alloc HBB.out _)
       (case aS => exact below_size (below_alloc HBB.out _))
       (case aL => rw [List.length_map, List.length_take]; have := HS9.out; omega)
       intro v2 w2 ho hb hg hat2
       have HO2 := aM ho
       have HB2 := aM hb
       clear ho hb hg hat2
       go_wp2
       go_roundg k2
       case measure => omega
       case rel =>
        have hx := HX.out
        have hn := HN9.out
        have hs := HS9.out
        have hw : wrap64 (ix + 1) = ix + 1 := by unfold wrap64; omega
        have hnn : (ix + 1).toNat = ix.toNat + 1 := by omega
        have hlt : ix.toNat < S.length := by omega
        have hv := HO2.out
        have e : (S.take ix.toNat).map Prod.fst ++ [p.1] = (S.take (ix.toNat + 1)).map Prod.fst := by
         rw [List.take_succ_eq_append_getElem hlt, List.map_append, HP.out, List.getD_eq_getElem?_getD, List.getElem?_eq_getElem hlt]
         rfl
        rw [← List.map_take, e] at hv
        exact ⟨ix + 1, by rw [hw], ⟨by omega⟩, ⟨by rw [hnn]; exact hv⟩, HB2⟩
    ·
     intro x c w1 cnt1 hlx hat hrg1 hlt hg1 hs1 hen
     obtain ⟨y, hy⟩ : ∃ y, y = x.data.toList := ⟨_, rfl⟩
     rw [← hy] at hlx hat hrg1
     have HY := aM hy
     have hm : y ∈ all := HM9.out.2.2 y hlx
     have hcc : c = all.count y := by
      have h := (HDR.out y).2 (.lit (.int .i64 0))
      rw [hat] at h
      unfold sym_Train.cnt at h
      rw [if_pos hm] at h
      simpa using h
     have HCC : Aside0 (c = all.count y ∧ 0 ≤ c ∧ c ≤ 7168 ∧ y ∈ all ∧ x.size ≤ 8 ∧ x.size = y.length ∧ left (.string y) = true) := ⟨by
      have h1 := List.count_le_length (a := y) (l := all)
      have h2 := HALL.out.2.1
      have h3 := HALL.out.2.2 y hm
      have h4 : x.size = y.length := by rw [hy]; exact (Array.length_toList).symm
      refine ⟨hcc, by omega, by omega, hm, by omega, h4, hlx⟩⟩
     have HG1 := aM hg1
     have HR1 := aM hrg1
     have HLT : Aside0 (cnt1 < cn) := ⟨hlt⟩
     have HS1 := aM hs1
     have HB1 := aM (HB9.out.grown hg1 (below_size HB9.out) (fun j hj => by cases hj; exact Nat.le_of_lt HRI.out))
     have HK1 := aM (Kd.R_grown HK9.out hg1 (fun k hk e => by injection e with e; omega))
     clear hy hm hcc hat hlx hrg1 hlt hg1 hs1 HB9 HK9
     by_cases hc : 1 < c
     ·
      have d1 : decide (1 < c) = true := decide_eq_true hc
      have HC := aM hc
      obtain ⟨j1, hj1⟩ : ∃ j : Int, wrap64 ((x.size : Int) - 1) = j := ⟨_, rfl⟩
      obtain ⟨j2, hj2⟩ : ∃ j : Int, wrap64 (j1 * c) = j := ⟨_, rfl⟩
      have HJ1 : Aside0 (j1 = (x.size : Int) - 1) := ⟨by have := HCC.out; rw [← hj1]; unfold wrap64; omega⟩
      have HJ2 : Aside0 (j2 = ((x.size : Int) - 1) * c) := ⟨by
       rw [← hj2, HJ1.out]
       have h1 : -1 ≤ (x.size : Int) - 1 ∧ (x.size : Int) - 1 ≤ 7 := by have := HCC.out; omega
       have h2 := HCC.out.2.1
       have h3 := HCC.out.2.2.1
       have h4 : ((x.size : Int) - 1) * c ≤ 7 * c := Int.mul_le_mul_of_nonneg_right h1.2 h2
       have h5 : (-1) * c ≤ ((x.size : Int) - 1) * c := Int.mul_le_mul_of_nonneg_right h1.1 h2
       generalize ((x.size : Int) - 1) * c = q at h4 h5 ⊢
       unfold wrap64
       omega⟩
      have hj1w : IntKind.i64.wrap ((x.size : Int) - 1) = j1 := (i64_w _).trans hj1
      have hj2w : IntKind.i64.wrap (j1 * c) = j2 := (i64_w _).trans hj2
      clear hc
      go_wp2_with (first | (at_builtin; (refine Kd.R_append (Kd.pair Kd.string (Kd.int .i64)) (w0 := w) w.heap.size rfl (.tmp 68) (.tmp 76) 66 68 (.agg #[.string ⟨#[]⟩, .int .i64 0]) 24 rfl Try.underlying66 HI68.out rfl (by decide) (by omega) _ (K.map (sym_Train.pieceOf all)) (sym_Train.pieceOf all y) [.string x, .int .i64 j2] (fun k => ri < k) (fun _ => False) rfl rfl ?aP (fun _ hk => hk.elim) ?aF ?aO ?aB ?aS ?aL ?_)))
      (case aP => exact sym_Train.pair_M.2 (by unfold sym_Train.encP sym_Train.pieceOf; rw [HJ2.out, HCC.out.1, HCC.out.2.2.2.2.2.1, HY.out]))
      (case aF => exact fun k hk => Nat.lt_of_lt_of_le HR1.out.lt hk)
      (case aO => exact HK1.out)
      (case aB => exact HB1.out)
      (case aS => exact below_size HB1.out)
      (case aL => rw [List.length_map]; have := Nat.le_trans (sym_Train.keys_len K all HM9.out.1 (fun y hy => ((HM9.out.2.1 y).1 hy).1)) HALL.out.2.1; omega)
      intro v2 w2 ho hb hg hat2
      have HR2 := aM (HR1.out.kept hg (fun e => absurd (HK1.out.1 _ e.symm) (Nat.not_lt.2 (Nat.le_of_lt HRI.out))) (fun e => absurd (HK1.out.1 _ e.symm) (Nat.lt_irrefl _)))
      have HK2 := aM ho
      have HB2 := aM hb
      clear ho hb hg hat2
      go_wp2
      go_roundw
      case rel =>
       exact ⟨_, cnt1, K ++ [y], HR2, ⟨by rw [List.map_append]; exact HK2.out⟩, ⟨sym_Train.keys_step HM9.out HCC.out.2.2.2.2.2.2 (by have := HC.out; have := HCC.out.1; omega)⟩, HB2⟩
      case measure => rw [HR2.out.left_eq, HR9.out.left_eq]; exact HLT.out
     ·
      have d1 : decide (1 < c) = false := decide_eq_false hc
      have HC := aM hc
      clear hc
      go_wp2
      go_roundw
      case rel =>
       exact ⟨_, cnt1, K, HR1, HK1, ⟨sym_Train.keys_skip HM9.out HCC.out.2.2.2.2.2.2 (by have := HC.out; have := HCC.out.1; omega)⟩, HB1⟩
      case measure => rw [HR1.out.left_eq, HR9.out.left_eq]; exact HLT.out
end Go.Proofs.Ythaifibhflfpkaa.Q
end
section
namespace Go.Proofs.Ythaifibhflfpkaa.Q
open Go.RowKit Go.Proofs.YthaifibhflfpkaaW.PrintWords Go.Proofs.YthaifibhflfpkaaW.PrintLast Go.Proofs.YthaifibhflfpkaaW.PrintMore Go.Proofs.YthaifibhflfpkaaX Go.Sort Go.Shelf
namespace Law
def txt (p : S85) : List UInt8 := p.f0.data.toList
structure Rep (l : List S85) (ws : List (List UInt8)) : Prop where
  nodup : (l.map txt).Nodup
  mem : ∀ y, y ∈ ws → y ∈ l.map txt
  cnt : ∀ p ∈ l, txt p ∈ ws ∧ p.f1 = (ws.count (txt p) : Int)
theorem Rep.nil : Rep [] [] := ⟨by simp, fun y h => by simp at h, fun p h => by simp at h⟩
theorem Rep.len {l : List S85} {ws : List (List UInt8)} (h : Rep l ws) : l.length ≤ ws.length := by
  have := sym_Train.keys_len (l.map txt) ws h.nodup (fun y hy => by
    obtain ⟨p, hp, rfl⟩ := List.mem_map.1 hy
    exact (h.cnt p hp).1)
  simpa using this
theorem txt_inj {l : List S85} (h : (l.map txt).Nodup) (i j : Nat) (hi : i < l.length) (hj : j < l.length) (he : txt l[i] = txt l[j]) : i = j := by
  have hp := List.pairwise_iff_getElem.1 h
  rcases Nat.lt_trichotomy i j with h1 | h1 | h1
  · exact absurd (by rw [List.getElem_map, List.getElem_map]; exact he) (hp i j (by simpa using hi) (by simpa using hj) h1)
  · exact h1
  · exact absurd (by rw [List.getElem_map, List.getElem_map]; exact he.symm) (hp j i (by simpa using hj) (by simpa using hi) h1)
theorem map_set_same (l : List S85) (j : Nat) (hj : j < l.length) (z : S85) (hz : txt z = txt l[j]) : (l.set j z).map txt = l.map txt := by
  rw [List.map_set, hz]
  have : txt l[j] = (l.map txt)[j]'(by simpa using hj) := by simp
  rw [this, List.set_getElem_self]
theorem Rep.set {l : List S85} {ws : List (List UInt8)} (h : Rep l ws) (j : Nat) (hj : j < l.length) (z : S85) (h0 : z.f0 = l[j].f0) (h1 : z.f1 = l[j].f1 + 1) : Rep (l.set j z) (ws ++ [txt l[j]]) := by
  have hz : txt z = txt l[j] := by unfold txt; rw [h0]
  have hm := map_set_same l j hj z hz
  refine ⟨by rw [hm]; exact h.nodup, fun y hy => ?_, fun p hp => ?_⟩
  · rw [hm]
    rcases List.mem_append.1 hy with hy | hy
    · exact h.mem y hy
    · rw [List.mem_singleton.1 hy]
      exact List.mem_map.2 ⟨_, List.getElem_mem hj, rfl⟩
  · obtain ⟨i, hi, rfl⟩ := List.getElem_of_mem hp
    have hi' : i < l.length := by simpa using hi
    rw [List.getElem_set]
    by_cases he : j = i
    · subst he
      rw [if_pos rfl, hz]
      refine ⟨by simp, ?_⟩
      rw [h1, (h.cnt _ (List.getElem_mem hj)).2, List.count_append]
      simp
    · rw [if_neg he]
      have hc := h.cnt _ (List.getElem_mem hi')
      refine ⟨List.mem_append.2 (.inl hc.1), ?_⟩
      rw [hc.2, List.count_append]
      have hne : txt l[i] ≠ txt l[j] := fun e => he (txt_inj h.nodup i j hi' hj e).symm
      have : ([txt l[j]] : List (List UInt8)).count (txt l[i]) = 0 := by
        rw [List.count_eq_zero]
        simp
        exact hne
      omega
def pieceS (p : S85) : ByteArray × Int := (p.f0, ((p.f0.size : Int) - 1) * p.f1)
def wanted (l : List S85) : List (ByteArray × Int) := (l.filter fun p => decide (2 ≤ p.f1)).map pieceS
abbrev ltP : ByteArray × Int → ByteArray × Int → Bool := ltOf sym_Train.cf
theorem sorted_pairs (L : List (ByteArray × Int)) : (L.mergeSort fun x y => !ltP y x).Pairwise fun x y => ltP y x = false := by
  have h : (L.mergeSort fun x y => !ltP y x).Pairwise fun x y => (!ltP y x) = true := by
    refine List.pairwise_mergeSort ?_ ?_ _
    · intro a b c h1 h2
      simp only [Bool.not_eq_true'] at h1 h2 ⊢
      exact sym_Train.swo.ntrans c b a h2 h1
    · intro a b
      cases h : ltP b a with
      | false => simp
      | true => simp [sym_Train.swo.asymmA h]
  exact h.imp (fun h => by simpa using h)
theorem trainP (x0 : List (List Int)) (hx : x0.length < 1000000) : sym_Train.f x0 = some (sym_Train.train (sym_Train.winL x0 1024)) := by
  unfold sym_Train.f
  rw [if_pos (by omega)]
theorem winN_two (s : ByteArray) (i : Nat) : ∀ f n y, 2 ≤ n → y ∈ sym_Train.winN s i f n → 2 ≤ y.length
  | 0, _, _, _, h => by simp [sym_Train.winN] at h
  | f + 1, n, y, hn, h => by
    rw [sym_Train.winN] at h
    split at h
    · rename_i hle
      rcases List.mem_cons.1 h with h1 | h1
      · subst h1
        rw [data_length, ByteArray.size_extract]
        omega
      · exact winN_two s i f (n + 1) y (by omega) h1
    · simp at h
theorem winI_two (s : ByteArray) : ∀ f i y, y ∈ sym_Train.winI s f i → 2 ≤ y.length
  | 0, _, _, h => by simp [sym_Train.winI] at h
  | f + 1, i, y, h => by
    rw [sym_Train.winI] at h
    split at h
    · rcases List.mem_append.1 h with h1 | h1
      · exact winN_two s i 7 2 y (by omega) h1
      · exact winI_two s f (i + 1) y h1
    · simp at h
theorem winL_two : ∀ l left y, y ∈ sym_Train.winL l left → 2 ≤ y.length
  | [], _, _, h => by simp [sym_Train.winL] at h
  | b :: r, left, y, h => by
    rw [sym_Train.winL] at h
    rcases List.mem_append.1 h with h1 | h1
    · exact winI_two _ _ _ y h1
    · exact winL_two r _ y h1
theorem train_ok (ws : List (List UInt8)) (h2 : ∀ y ∈ ws, 2 ≤ y.length ∧ y.length ≤ 8) : okT (sym_Train.train ws) := by
  have hperm := List.mergeSort_perm (sym_Train.pieces ws) (fun x y => !(ltOf sym_Train.cf) y x)
  have hpt : (sym_Train.pieces ws).map (fun p => p.1.data.toList) = ws.eraseDups.filter fun y => decide (1 < ws.count y) := by
    unfold sym_Train.pieces
    rw [List.map_map]
    conv => rhs; rw [← List.map_id (ws.eraseDups.filter fun y => decide (1 < ws.count y))]
    rfl
  have hnd : ((sym_Train.pieces ws).map (fun p => p.1.data.toList)).Nodup := by
    rw [hpt]
    exact (sym_Train.nodup_eraseDups _ ws (Nat.le_refl _)).filter _
  have hnd2 : (((sym_Train.pieces ws).mergeSort fun x y => !(ltOf sym_Train.cf) y x).map (fun p => p.1.data.toList)).Nodup := (hperm.map _).nodup_iff.2 hnd
  have hsub : (sym_Train.train ws).map sym_Formed.key = ((((sym_Train.pieces ws).mergeSort fun x y => !(ltOf sym_Train.cf) y x).map (fun p => p.1.data.toList))).take 32 := by
    unfold sym_Train.train
    rw [List.map_map, ← List.map_take]
    rfl
  refine ⟨?_, ?_, ?_⟩
  · unfold sym_Train.train
    rw [List.length_map, List.length_take]
    omega
  · intro s hs
    unfold sym_Train.train at hs
    obtain ⟨p, hp, rfl⟩ := List.mem_map.1 hs
    have hp1 := hperm.mem_iff.1 (List.mem_of_mem_take hp)
    unfold sym_Train.pieces at hp1
    obtain ⟨y, hy, rfl⟩ := List.mem_map.1 hp1
    have hy1 := (List.mem_filter.1 hy).1
    rw [List.mem_eraseDups] at hy1
    have := h2 y hy1
    unfold sym_Train.pieceOf
    rw [← data_length]
    simpa using this
  · rw [hsub]
    exact hnd2.sublist (List.take_sublist _ _)
theorem train_okL (x0 : List (List Int)) : okT (sym_Train.train (sym_Train.winL x0 1024)) :=
  train_ok _ fun y hy => ⟨winL_two x0 1024 y hy, sym_Train.winL_mem x0 1024 y hy⟩
end Law
end Go.Proofs.Ythaifibhflfpkaa.Q
end
section
namespace Go.Proofs.Ythaifibhflfpkaa.Q
open Go.RowKit Go.Proofs.YthaifibhflfpkaaW.PrintWords Go.Proofs.YthaifibhflfpkaaW.PrintLast Go.Proofs.YthaifibhflfpkaaW.PrintMore Go.Proofs.YthaifibhflfpkaaX
attribute [local go_sem] max2_int min2_int max_two min_two max_three min_three max_four min_four   -- for this text's walks alone
set_option linter.unusedVariables false
set_option linter.unusedSimpArgs false
def lz_key.f (l0 : List Int) : Option (Int) := if 0 < (l0.length : Int) then (if 1 < (l0.length : Int) then (if 2 < (l0.length : Int) then (if 3 < (l0.length : Int) then (some (Go.bits .or .u32 (Go.bits .or .u32 (Go.bits .or .u32 ((rd l0 0) % 4294967296) ((((rd l0 1) % 4294967296) * 256) % 4294967296)) ((((rd l0 2) % 4294967296) * 65536) % 4294967296)) ((((rd l0 3) % 4294967296) * 16777216) % 4294967296))) else (none)) else (none)) else (none)) else (none)
set_option maxHeartbeats 8000000 in
set_option maxRecDepth 100000 in
theorem lz_key.calls (A0 : Option Addr) (c0 : Nat) (l0 : List Int) (r : Int) (w : World) (hr0 : Kd.C (Kd.int .u8) w A0 l0.length l0) (hc0 : l0.length ≤ c0) (h : lz_key.f l0 = some r) :
  Calls Try.prog 38 #[.slice A0 l0.length c0] w fun e w' => e = .returned (.int .u32 r) ∧ Drawn0 w w' := by
 have HR0 := aM hr0
 have HC0 := aM hc0
 clear hr0 hc0
 have H : (if 0 < (l0.length : Int) then (if 1 < (l0.length : Int) then (if 2 < (l0.length : Int) then (if 3 < (l0.length : Int) then (some (Go.bits .or .u32 (Go.bits .or .u32 (Go.bits .or .u32 ((rd l0 0) % 4294967296) ((((rd l0 1) % 4294967296) * 256) % 4294967296)) ((((rd l0 2) % 4294967296) * 65536) % 4294967296)) ((((rd l0 3) % 4294967296) * 16777216) % 4294967296))) else (none)) else (none)) else (none)) else (none)) = some r := h
 clear h
 by_cases c2 : 0 < (l0.length : Int)
 ·
  rw [if_pos c2] at H
  have c2b0 : decide (0 < (l0.length : Int)) = true := decide_eq_true c2
  have c2b1 : decide (0 < l0.length) = true := decide_eq_true (by omega)
  clear c2
  by_cases c3 : 1 < (l0.length : Int)
  ·
   rw [if_pos c3] at H
   have c3b0 : decide (1 < (l0.length : Int)) = true := decide_eq_true c3
   have c3b1 : decide (1 < l0.length) = true := decide_eq_true (by omega)
   clear c3
   by_cases c4 : 2 < (l0.length : Int)
   ·
    rw [if_pos c4] at H
    have c4b0 : decide (2 < (l0.length : Int)) = true := decide_eq_true c4
    have c4b1 : decide (2 < l0.length) = true := decide_eq_true (by omega)
    clear c4
    by_cases c5 : 3 < (l0.length : Int)
    ·
     rw [if_pos c5] at H
     have c5b0 : decide (3 < (l0.length : Int)) = true := decide_eq_true c5
     have c5b1 : decide (3 < l0.length) = true := decide_eq_true (by omega)
     clear c5
     obtain rfl := Option.some.inj H
     have p101 : 0 ≤ (0 : Int) := (by omega)
     have q101 : 0 < (l0.length : Int) := of_decide_eq_true (by first | (with_reducible assumption) | assumption)
     obtain ⟨ad101, e101, hx101_0⟩ := Kd.at_int HR0.out 0 p101 q101
     cases e101
     have qi101 : (0 < l0.length) = True := eq_true (by omega)
     (try rw [show ((0 : Int)).toNat = 0 from rfl] at hx101_0)
     (try rw [Addr.add_zero'] at hx101_0)
     replace p101 := eq_true p101
     replace q101 := eq_true q101
     have p102 : 0 ≤ (1 : Int) := (by omega)
     have q102 : 1 < (l0.length : Int) := of_decide_eq_true (by first | (with_reducible assumption) | assumption)
     obtain ⟨ad102, e102, hx102_0⟩ := Kd.at_int HR0.out 1 p102 q102
     obtain rfl : ad101 = ad102 := (by injection e102)
     (try simp only [show (1 : Int).toNat = 1 from rfl, Nat.reduceMul, Nat.reduceEqDiff, Go.Addr.add, ↓reduceIte] at hx102_0)
     have qi102 : (1 < l0.length) = True := eq_true (by omega)
     (try rw [show ((1 : Int)).toNat = 1 from rfl] at hx102_0)
     replace p102 := eq_true p102
     replace q102 := eq_true q102
     have p103 : 0 ≤ (2 : Int) := (by omega)
     have q103 : 2 < (l0.length : Int) := of_decide_eq_true (by first | (with_reducible assumption) | assumption)
     obtain ⟨ad103, e103, hx103_0⟩ := Kd.at_int HR0.out 2 p103 q103
     obtain rfl : ad101 = ad103 := (by injection e103)
     (try simp only [show (2 : Int).toNat = 2 from rfl, Nat.reduceMul, Nat.reduceEqDiff, Go.Addr.add, ↓reduceIte] at hx103_0)
     have qi103 : (2 < l0.length) = True := eq_true (by omega)
     (try rw [show ((2 : Int)).toNat = 2 from rfl] at hx103_0)
     replace p103 := eq_true p103
     replace q103 := eq_true q103
     have p104 : 0 ≤ (3 : Int) := (by omega)
     have q104 : 3 < (l0.length : Int) := of_decide_eq_true (by first | (with_reducible assumption) | assumption)
     obtain ⟨ad104, e104, hx104_0⟩ := Kd.at_int HR0.out 3 p104 q104
     obtain rfl : ad101 = ad104 := (by injection e104)
     (try simp only [show (3 : Int).toNat = 3 from rfl, Nat.reduceMul, Nat.reduceEqDiff, Go.Addr.add, ↓reduceIte] at hx104_0)
     have qi104 : (3 < l0.length) = True := eq_true (by omega)
     (try rw [show ((3 : Int)).toNat = 3 from rfl] at hx104_0)
     replace p104 := eq_true p104
     replace q104 := eq_true q104
     go_enter Try.func38, Try.ntmps38
     go_wp2
     repeat (go_quiet (fail); try go_wp2)
     go_ret
     exact ⟨by first | rfl | (simp; done) | (simp [*]; done), by repeat (first | exact Drawn0.refl _ | apply Drawn0.step)⟩
    ·
     rw [if_neg c5] at H
     exact absurd H (by simp)
   ·
    rw [if_neg c4] at H
    exact absurd H (by simp)
  ·
   rw [if_neg c3] at H
   exact absurd H (by simp)
 ·
  rw [if_neg c2] at H
  exact absurd H (by simp)
def lz_lay.l0 : Nat → List Int → Int → Option (List Int)
 | 0, _, _ => none
 | k + 1, x0, x1 => if x1 ≥ 255 then (if x0.length < 140737488355328 then (lz_lay.l0 k (x0 ++ [255]) (wrap64 (x1 - 255))) else (none)) else (if x0.length < 140737488355328 then (some (x0 ++ [(x1) % 256])) else (none))
def lz_lay.f (k : Nat) (l0 : List Int) (a1 : Int) : Option (List Int) := lz_lay.l0 k l0 a1
set_option maxHeartbeats 8000000 in
set_option maxRecDepth 100000 in
theorem lz_lay.calls (k : Nat) (P0_ : Nat → Prop) (u9000_ : Value) (l0 : List Int) (a1 : Int) (r : List Int) (w0 w : World) (hB : Below w0.heap.size w0 w) (ho0 : Kd.R (Kd.int .u8) 5 w w0.heap.size P0_ u9000_ l0) (h : lz_lay.f k l0 a1 = some r) :
  Calls Try.prog 40 #[u9000_, .int .i64 a1] w fun e w' => ∃ v0_ : Value, e = .returned (v0_) ∧ Kd.R (Kd.int .u8) 5 w' w0.heap.size (fun k_ => (P0_ k_ ∨ w.heap.size ≤ k_)) v0_ r ∧ Below w0.heap.size w0 w' ∧ Kept w w' (fun k_ => P0_ k_) := by
 have HO0 := aM (show Kd.R (Kd.int .u8) 5 w w0.heap.size (fun k_ => (P0_ k_ ∨ w.heap.size ≤ k_)) u9000_ l0 from Kd.R_mono ho0 (fun k_ hk => (.inl hk)))
 have HK := aM (Kept.refl w (fun k_ => P0_ k_))
 have HW0 := aM hB.size
 have HB := aM hB
 clear hB
 have H : (lz_lay.l0 k l0 a1) = some r := h
 clear h
 have H' := aM H
 clear H
 go_enter Try.func40, Try.ntmps40
 go_wp2
 go_loopg [0, 1] k (fun kq v0 v1 w' => ∃ (x0_1 : List Int) (x1_1 : Int), v1 = .int .i64 x1_1 ∧ Aside0 (lz_lay.l0 kq x0_1 x1_1 = some r) ∧ Aside0 (kq ≤ k) ∧ Aside0 (Kd.R (Kd.int .u8) 5 w' w0.heap.size (fun k_ => (P0_ k_ ∨ w.heap.size ≤ k_)) v0 x0_1) ∧ Aside0 (Kept w w' (fun k_ => P0_ k_)) ∧ Aside0 (Below w0.heap.size w0 w'))
 case atStart => exact ⟨(l0), (a1), (by first | rfl | (simp; done) | (simp [*]; done)), H', ⟨Nat.le_refl _⟩, ⟨by (with_reducible repeat (first | apply Kd.R_alloc | apply Kd.R_drewN | apply Kd.R_drew)); exact HO0.out⟩, ⟨by repeat (first | (with_reducible first | exact HK.out | apply Kept.alloc | apply Kept.drewN | apply Kept.drew) | exact HK.out)⟩, ⟨xB HB.out⟩⟩
 case round =>
  clear H'
  try clear p2
  obtain ⟨x0_1, x1_1, rfl, HA, HK1, HO_0, HK, HB⟩ := hrel
  cases gk with
  | zero => exact absurd HA.out (by simp [lz_lay.l0])
  | succ k1 =>
   have H := HA.out
   clear HA
   simp only [lz_lay.l0] at H
   by_cases c3 : x1_1 ≥ 255
   ·
    rw [if_pos c3] at H
    have c3b0 : decide (255 ≤ x1_1) = true := decide_eq_true c3
    clear c3
    by_cases c4 : x0_1.length < 140737488355328
    ·
     rw [if_pos c4] at H
     have LMc4 := aM c4
     clear c4
     obtain ⟨y105, hy105⟩ : ∃ y_ : List Int, y_ = (x0_1 ++ [255]) := ⟨_, rfl⟩
     replace H : (lz_lay.l0 k1 y105 (wrap64 (x1_1 - 255))) = some r := by first | (rw [hy105]; with_reducible exact H) | (have H2_ := (Option.bind_some _ _).symm.trans H; rw [hy105]; with_reducible exact H2_) | (have H2_ := (Option.bind_some _ _).symm.trans H; with_reducible exact H2_) | with_reducible exact H | (rw [hy105]; exact H) | exact H
     have Ny105 := aM hy105
     clear hy105
     have H' := aM H
     clear H
     go_wp2_with (first | ((with_reducible refine gate_builtin (b := .append) (xs := #[.tmp 9, .tmp 10]) rfl ?_); at_builtin; refine Kd.R_append (Kd.int .u8) (w0 := w0) w0.heap.size rfl (.tmp 9) (.tmp 10) 22 5 (.int .u8 0) 1 rfl Try.underlying22 info5 rfl (by decide) (by omega) u0 x0_1 255 [.int .u8 255] (fun k_ => (P0_ k_ ∨ w.heap.size ≤ k_)) (fun _ => False) rfl rfl ?aP (fun _ hk => hk.elim) ?aF ?aO ?aB ?aS ?aL ?_; (case aP => exact rfl); (case aB => exact (xB HB.out)); (case aF => exact (fun k_ hk => (.inr (Nat.le_trans (by first | exact HK.out.1 | exact (show Kept w _ (fun k_ => P0_ k_) from by repeat (first | (with_reducible first | exact HK.out | apply Kept.alloc | apply Kept.drewN | apply Kept.drew) | exact HK.out)).1) hk)))); (case aO => exact (xR HO_0.out)); (case aS => exact (below_size (xB HB.out))); (case aL => have := LMc4.out; omega); intro v106 w5 ho hb hg hat; rw [← Ny105.out] at ho; have n0_ := aM (hb); have n1_ := aM (Kept.of_grown (S := (fun k_ => P0_ k_)) hg (by repeat (first | (with_reducible first | exact HK.out | apply Kept.alloc | apply Kept.drewN | apply Kept.drew) | exact HK.out)) (fun k_ e_ => (HO_0.out.1 k_ e_))); have n2_ := aM (ho); clear HB; clear HK; clear HO_0; have HB := n0_; have HK := n1_; have HO107 := n2_; clear n0_ n1_ n2_; clear ho hb hg hat))
     go_roundg k1
     case measure => have := HK1.out; omega
     case rel => exact ⟨(y105), (wrap64 (x1_1 - 255)), (by first | rfl | (simp; done) | (simp [*]; done)), H', ⟨by have := HK1.out; omega⟩, ⟨by (with_reducible repeat (first | apply Kd.R_alloc | apply Kd.R_drewN | apply Kd.R_drew)); exact HO107.out⟩, ⟨by repeat (first | (with_reducible first | exact HK.out | apply Kept.alloc | apply Kept.drewN | apply Kept.drew) | exact HK.out)⟩, ⟨xB HB.out⟩⟩
    ·
     rw [if_neg c4] at H
     exact absurd H (by simp)
   ·
    rw [if_neg c3] at H
    have c3b0 : decide (255 ≤ x1_1) = false := decide_eq_false c3
    clear c3
    by_cases c6 : x0_1.length < 140737488355328
    ·
     rw [if_pos c6] at H
     have LMc6 := aM c6
     clear c6
     obtain ⟨y108, hy108⟩ : ∃ y_ : List Int, y_ = (x0_1 ++ [(x1_1) % 256]) := ⟨_, rfl⟩
     replace H : (some y108) = some r := by first | (rw [hy108]; with_reducible exact H) | (have H2_ := (Option.bind_some _ _).symm.trans H; rw [hy108]; with_reducible exact H2_) | (have H2_ := (Option.bind_some _ _).symm.trans H; with_reducible exact H2_) | with_reducible exact H | (rw [hy108]; exact H) | exact H
     have Ny108 := aM hy108
     clear hy108
     obtain rfl := Option.some.inj H
     go_wp2_with (first | ((with_reducible refine gate_builtin (b := .append) (xs := #[.tmp 12, .tmp 15]) rfl ?_); at_builtin; refine Kd.R_append (Kd.int .u8) (w0 := w0) w0.heap.size rfl (.tmp 12) (.tmp 15) 22 5 (.int .u8 0) 1 rfl Try.underlying22 info5 rfl (by decide) (by omega) u0 x0_1 ((x1_1) % 256) [.int .u8 ((x1_1) % 256)] (fun k_ => (P0_ k_ ∨ w.heap.size ≤ k_)) (fun _ => False) rfl rfl ?aP (fun _ hk => hk.elim) ?aF ?aO ?aB ?aS ?aL ?_; (case aP => exact rfl); (case aB => exact (xB HB.out)); (case aF => exact (fun k_ hk => (.inr (Nat.le_trans (by first | exact HK.out.1 | exact (show Kept w _ (fun k_ => P0_ k_) from by repeat (first | (with_reducible first | exact HK.out | apply Kept.alloc | apply Kept.drewN | apply Kept.drew) | exact HK.out)).1) hk)))); (case aO => exact (xR HO_0.out)); (case aS => exact (below_size (xB HB.out))); (case aL => have := LMc6.out; omega); intro v109 w7 ho hb hg hat; rw [← Ny108.out] at ho; have n0_ := aM (hb); have n1_ := aM (Kept.of_grown (S := (fun k_ => P0_ k_)) hg (by repeat (first | (with_reducible first | exact HK.out | apply Kept.alloc | apply Kept.drewN | apply Kept.drew) | exact HK.out)) (fun k_ e_ => (HO_0.out.1 k_ e_))); have n2_ := aM (ho); clear HB; clear HK; clear HO_0; have HB := n0_; have HK := n1_; have HO110 := n2_; clear n0_ n1_ n2_; clear ho hb hg hat))
     go_ret
     exact ⟨_, by first | rfl | (simp [errW_none, errW_some] <;> rfl) | (simp [*, errW_none, errW_some] <;> rfl), by (with_reducible repeat (first | apply Kd.R_alloc | apply Kd.R_drewN | apply Kd.R_drew)); exact HO110.out, xB HB.out, by repeat (first | (with_reducible first | exact HK.out | apply Kept.alloc | apply Kept.drewN | apply Kept.drew) | exact HK.out)⟩
    ·
     rw [if_neg c6] at H
     exact absurd H (by simp)
def lz_literals.f (k : Nat) (l0 : List Int) (l1 : List Int) (a2 : Int) : Option (List Int) := if l0.length < 140737488355328 then ((some (l0 ++ [(Go.bits .or .i64 ((mn (l1.length : Int) 15) * 16) (mn a2 15)) % 256] : List Int)).bind fun y111 => (if (mn (l1.length : Int) 15) = 15 then ((lz_lay.f k y111 (wrap64 ((l1.length : Int) - 15))).bind fun t114 => (if t114.length + l1.length < 140737488355328 then (some (t114 ++ l1)) else (none))) else (if y111.length + l1.length < 140737488355328 then (some (y111 ++ l1)) else (none)))) else (none)
set_option maxHeartbeats 8000000 in
set_option maxRecDepth 100000 in
theorem lz_literals.calls (k : Nat) (P0_ : Nat → Prop) (u9000_ : Value) (l0 : List Int) (A1 : Option Addr) (c1 : Nat) (l1 : List Int) (a2 : Int) (r : List Int) (w0 w : World) (hB : Below w0.heap.size w0 w) (ho0 : Kd.R (Kd.int .u8) 5 w w0.heap.size P0_ u9000_ l0) (hr1 : ∀ W_, Kept w W_ (fun k_ => P0_ k_) → Kd.C (Kd.int .u8) W_ A1 l1.length l1) (hc1 : l1.length ≤ c1) (h : lz_literals.f k l0 l1 a2 = some r) :
  Calls Try.prog 39 #[u9000_, .slice A1 l1.length c1, .int .i64 a2] w fun e w' => ∃ v0_ : Value, e = .returned (v0_) ∧ Kd.R (Kd.int .u8) 5 w' w0.heap.size (fun k_ => (P0_ k_ ∨ w.heap.size ≤ k_)) v0_ r ∧ Below w0.heap.size w0 w' ∧ Kept w w' (fun k_ => P0_ k_) := by
 have HO0 := aM (show Kd.R (Kd.int .u8) 5 w w0.heap.size (fun k_ => (P0_ k_ ∨ w.heap.size ≤ k_)) u9000_ l0 from Kd.R_mono ho0 (fun k_ hk => (.inl hk)))
 have HR1 := aM hr1
 have HC1 := aM hc1
 clear hr1 hc1
 have HK := aM (Kept.refl w (fun k_ => P0_ k_))
 have HW0 := aM hB.size
 have HB := aM hB
 clear hB
 have H : (if l0.length < 140737488355328 then ((some (l0 ++ [(Go.bits .or .i64 ((mn (l1.length : Int) 15) * 16) (mn a2 15)) % 256] : List Int)).bind fun y111 => (if (mn (l1.length : Int) 15) = 15 then ((lz_lay.f k y111 (wrap64 ((l1.length : Int) - 15))).bind fun t114 => (if t114.length + l1.length < 140737488355328 then (some (t114 ++ l1)) else (none))) else (if y111.length + l1.length < 140737488355328 then (some (y111 ++ l1)) else (none)))) else (none)) = some r := h
 clear h
 obtain ⟨ji4, hji4⟩ : ∃ j_ : Int, (mn (l1.length : Int) 15) = j_ := ⟨_, rfl⟩
 replace H : (if l0.length < 140737488355328 then ((some (l0 ++ [(Go.bits .or .i64 ((ji4) * 16) (mn a2 15)) % 256] : List Int)).bind fun y111 => (if (ji4) = 15 then ((lz_lay.f k y111 (wrap64 ((l1.length : Int) - 15))).bind fun t114 => (if t114.length + l1.length < 140737488355328 then (some (t114 ++ l1)) else (none))) else (if y111.length + l1.length < 140737488355328 then (some (y111 ++ l1)) else (none)))) else (none)) = some r := by first | (rw [hji4] at H; exact H) | (simp only [hji4] at H ⊢; exact H)
 (try (have hji4h : ji4 ≤ 15 := by (rw [← hji4]; unfold mn; (repeat' split) <;> omega)))
 (try (have hji4g : ji4 ≤ 64 := by omega))
 (try (have hji4l : 0 ≤ ji4 := by (rw [← hji4]; unfold mn; (repeat' split) <;> omega)))
 (try (have hji4m : 0 ≤ ji4 := by omega))
 have hji4_ : (if 15 < (l1.length : Int) then 15 else (l1.length : Int)) = ji4 := hji4
 obtain ⟨ji5, hji5⟩ : ∃ j_ : Int, (mn a2 15) = j_ := ⟨_, rfl⟩
 replace H : (if l0.length < 140737488355328 then ((some (l0 ++ [(Go.bits .or .i64 ((ji4) * 16) (ji5)) % 256] : List Int)).bind fun y111 => (if (ji4) = 15 then ((lz_lay.f k y111 (wrap64 ((l1.length : Int) - 15))).bind fun t114 => (if t114.length + l1.length < 140737488355328 then (some (t114 ++ l1)) else (none))) else (if y111.length + l1.length < 140737488355328 then (some (y111 ++ l1)) else (none)))) else (none)) = some r := by first | (rw [hji5] at H; exact H) | (simp only [hji5] at H ⊢; exact H)
 (try (have hji5h : ji5 ≤ 15 := by (rw [← hji5]; unfold mn; (repeat' split) <;> omega)))
 (try (have hji5g : ji5 ≤ 64 := by omega))
 have hji5_ : (if 15 < a2 then 15 else a2) = ji5 := hji5
 by_cases c6 : l0.length < 140737488355328
 ·
  rw [if_pos c6] at H
  have LMc6 := aM c6
  clear c6
  obtain ⟨y111, hy111⟩ : ∃ y_ : List Int, y_ = (l0 ++ [(Go.bits .or .i64 ((ji4) * 16) (ji5)) % 256]) := ⟨_, rfl⟩
  replace H : (if (ji4) = 15 then ((lz_lay.f k y111 (wrap64 ((l1.length : Int) - 15))).bind fun t114 => (if t114.length + l1.length < 140737488355328 then (some (t114 ++ l1)) else (none))) else (if y111.length + l1.length < 140737488355328 then (some (y111 ++ l1)) else (none))) = some r := by first | (rw [hy111]; with_reducible exact H) | (have H2_ := (Option.bind_some _ _).symm.trans H; rw [hy111]; with_reducible exact H2_) | (have H2_ := (Option.bind_some _ _).symm.trans H; with_reducible exact H2_) | with_reducible exact H | (rw [hy111]; exact H) | exact H
  have Ny111 := aM hy111
  clear hy111
  by_cases c7 : (ji4) = 15
  ·
   rw [if_pos c7] at H
   have c7b0 : ((ji4) == 15) = true := beq_iff_eq.mpr c7
   have c7b1 : ((ji4) != 15) = false := bne_eq_false_iff_eq.mpr c7
   clear c7
   replace H := Option.bind_eq_some_iff.mp H
   obtain ⟨t114, A80, H⟩ := H
   replace H : (if t114.length + l1.length < 140737488355328 then (some (t114 ++ l1)) else (none)) = some r := H
   have A8 := aM A80
   clear A80
   by_cases c9 : t114.length + l1.length < 140737488355328
   ·
    rw [if_pos c9] at H
    have LMc9 := aM c9
    clear c9
    obtain ⟨y117, hy117⟩ : ∃ y_ : List Int, y_ = (t114 ++ l1) := ⟨_, rfl⟩
    replace H : (some y117) = some r := by first | (rw [hy117]; with_reducible exact H) | (have H2_ := (Option.bind_some _ _).symm.trans H; rw [hy117]; with_reducible exact H2_) | (have H2_ := (Option.bind_some _ _).symm.trans H; with_reducible exact H2_) | with_reducible exact H | (rw [hy117]; exact H) | exact H
    have Ny117 := aM hy117
    clear hy117
    obtain rfl := Option.some.inj H
    go_enter Try.func39, Try.ntmps39
    go_wp2_with (first | ((with_reducible refine gate_builtin (b := .append) (xs := #[.tmp 11, .tmp 18]) rfl ?_); at_builtin; refine Kd.R_append (Kd.int .u8) (w0 := w0) w0.heap.size rfl (.tmp 11) (.tmp 18) 22 5 (.int .u8 0) 1 rfl Try.underlying22 info5 rfl (by decide) (by omega) u9000_ l0 ((Go.bits .or .i64 ((ji4) * 16) (ji5)) % 256) [.int .u8 ((Go.bits .or .i64 ((ji4) * 16) (ji5)) % 256)] (fun k_ => (P0_ k_ ∨ w.heap.size ≤ k_)) (fun _ => False) rfl rfl ?aP (fun _ hk => hk.elim) ?aF ?aO ?aB ?aS ?aL ?_; (case aP => exact rfl); (case aB => exact (xB HB.out)); (case aF => exact (fun k_ hk => (.inr (Nat.le_trans (by first | exact HK.out.1 | exact (show Kept w _ (fun k_ => P0_ k_) from by repeat (first | (with_reducible first | exact HK.out | apply Kept.alloc | apply Kept.drewN | apply Kept.drew) | exact HK.out)).1) hk)))); (case aO => exact (xR HO0.out)); (case aS => exact (below_size (xB HB.out))); (case aL => have := LMc6.out; omega); intro v112 w10 ho hb hg hat; rw [← Ny111.out] at ho; have n0_ := aM (hb); have n1_ := aM (Kept.of_grown (S := (fun k_ => P0_ k_)) hg (by repeat (first | (with_reducible first | exact HK.out | apply Kept.alloc | apply Kept.drewN | apply Kept.drew) | exact HK.out)) (fun k_ e_ => (HO0.out.1 k_ e_))); have n2_ := aM (ho); clear HB; clear HK; clear HO0; have HB := n0_; have HK := n1_; have HO113 := n2_; clear n0_ n1_ n2_; clear ho hb hg hat; obtain ⟨Ao11, co11, eo11⟩ := Kd.R_slice HO113.out; subst eo11) | ((with_reducible refine gate_callee (f := 40) rfl ?_); refine goesL_ (some 26) rfl rfl Try.func40 (by kernel_rfl) rfl #[.slice Ao11 y111.length co11, .int .i64 (wrap64 ((l1.length : Int) - 15))] rfl (by (try simp only [List.map_toArray, List.map_cons, List.map_nil]); first | done | rfl | (simp only [List.length_drop, List.length_take]; rfl)) ?_; (with_reducible refine (lz_lay.calls k (fun k_ => some k_ = (.slice Ao11 y111.length co11 : Value).ownBlock) (.slice Ao11 y111.length co11) y111 (wrap64 ((l1.length : Int) - 15)) t114 w0 _ ?side1 ?side2 A8.out).mono ?_); (case side1 => repeat (first | (with_reducible first | exact HB.out | apply below_alloc | apply pw_below_drewN | apply below_drew1) | exact HB.out)); (case side2 => exact Kd.R_tight rfl HO113.out); rintro e w12 ⟨v115, rfl, ho0, hb, hkp⟩; refine ⟨_, rfl, ?_⟩; have n0_ := aM (Kd.R_mono (ok' := fun k_ => (P0_ k_ ∨ w.heap.size ≤ k_)) ho0 (fun k_ hk_ => Or.elim hk_ (fun hs_ => (HO113.out.1 k_ (hs_).symm)) (fun hn_ => (.inr (Nat.le_trans (by first | exact HK.out.1 | exact (show Kept w _ (fun k_ => P0_ k_) from by repeat (first | (with_reducible first | exact HK.out | apply Kept.alloc | apply Kept.drewN | apply Kept.drew) | exact HK.out)).1) hn_))))); have n1_ := aM (Kept.then_ (S := (fun k_ => P0_ k_)) (by repeat (first | (with_reducible first | exact HK.out | apply Kept.alloc | apply Kept.drewN | apply Kept.drew) | exact HK.out)) hkp (fun k_ hs_ => (fun e_ => (HO113.out.1 k_ e_.symm)) hs_)); have n2_ := aM (hb); clear HK; clear HB; clear HO113; have HO116 := n0_; have HK := n1_; have HB := n2_; clear n0_ n1_ n2_; (try clear hb); (try clear hkp); (try clear ho0)) | ((with_reducible refine gate_builtin (b := .append) (xs := #[.tmp 27, .tmp 28]) rfl ?_); at_builtin; refine Kd.R_append_rows (Kd.int .u8) (w0 := w0) w0.heap.size rfl (.tmp 27) (.tmp 28) 22 5 (.int .u8 0) 1 rfl Try.underlying22 info5 rfl (by decide) (by omega) v115 t114 l1 _ _ _ (fun k_ => (P0_ k_ ∨ w.heap.size ≤ k_)) (fun _ => False) rfl rfl ?aO ?aR (fun _ _ h => h) (fun _ h => h.elim) ?aF ?aB ?aS ?aL ?_; (case aR => exact Kd.C_kept_now HR1.out (by repeat (first | (with_reducible first | exact HK.out | apply Kept.alloc | apply Kept.drewN | apply Kept.drew) | exact HK.out))); (case aB => exact (xB HB.out)); (case aF => exact (fun k_ hk => (.inr (Nat.le_trans (by first | exact HK.out.1 | exact (show Kept w _ (fun k_ => P0_ k_) from by repeat (first | (with_reducible first | exact HK.out | apply Kept.alloc | apply Kept.drewN | apply Kept.drew) | exact HK.out)).1) hk)))); (case aO => exact (xR HO116.out)); (case aS => exact (below_size (xB HB.out))); (case aL => have := LMc9.out; omega); intro v118 w13 ho hb hg hat; rw [← Ny117.out] at ho; have n0_ := aM (hb); have n1_ := aM (Kept.of_grown (S := (fun k_ => P0_ k_)) hg (by repeat (first | (with_reducible first | exact HK.out | apply Kept.alloc | apply Kept.drewN | apply Kept.drew) | exact HK.out)) (fun k_ e_ => (HO116.out.1 k_ e_))); have n2_ := aM (ho); clear HB; clear HK; clear HO116; have HB := n0_; have HK := n1_; have HO119 := n2_; clear n0_ n1_ n2_; clear ho hb hg hat))
    go_ret
    exact ⟨_, by first | rfl | (simp [errW_none, errW_some] <;> rfl) | (simp only [← hji4, ← hji5]; first | rfl | (simp [errW_none, errW_some] <;> rfl)) | (simp [*, errW_none, errW_some] <;> rfl), by (with_reducible repeat (first | apply Kd.R_alloc | apply Kd.R_drewN | apply Kd.R_drew)); exact HO119.out, xB HB.out, by repeat (first | (with_reducible first | exact HK.out | apply Kept.alloc | apply Kept.drewN | apply Kept.drew) | exact HK.out)⟩
   ·
    rw [if_neg c9] at H
    exact absurd H (by simp)
  ·
   rw [if_neg c7] at H
   have c7b0 : ((ji4) == 15) = false := beq_eq_false_iff_ne.mpr c7
   have c7b1 : ((ji4) != 15) = true := bne_iff_ne.mpr c7
   clear c7
   by_cases c14 : y111.length + l1.length < 140737488355328
   ·
    rw [if_pos c14] at H
    have LMc14 := aM c14
    clear c14
    obtain ⟨y120, hy120⟩ : ∃ y_ : List Int, y_ = (y111 ++ l1) := ⟨_, rfl⟩
    replace H : (some y120) = some r := by first | (rw [hy120]; with_reducible exact H) | (have H2_ := (Option.bind_some _ _).symm.trans H; rw [hy120]; with_reducible exact H2_) | (have H2_ := (Option.bind_some _ _).symm.trans H; with_reducible exact H2_) | with_reducible exact H | (rw [hy120]; exact H) | exact H
    have Ny120 := aM hy120
    clear hy120
    obtain rfl := Option.some.inj H
    go_enter Try.func39, Try.ntmps39
    go_wp2_with (first | ((with_reducible refine gate_builtin (b := .append) (xs := #[.tmp 11, .tmp 18]) rfl ?_); at_builtin; refine Kd.R_append (Kd.int .u8) (w0 := w0) w0.heap.size rfl (.tmp 11) (.tmp 18) 22 5 (.int .u8 0) 1 rfl Try.underlying22 info5 rfl (by decide) (by omega) u9000_ l0 ((Go.bits .or .i64 ((ji4) * 16) (ji5)) % 256) [.int .u8 ((Go.bits .or .i64 ((ji4) * 16) (ji5)) % 256)] (fun k_ => (P0_ k_ ∨ w.heap.size ≤ k_)) (fun _ => False) rfl rfl ?aP (fun _ hk => hk.elim) ?aF ?aO ?aB ?aS ?aL ?_; (case aP => exact rfl); (case aB => exact (xB HB.out)); (case aF => exact (fun k_ hk => (.inr (Nat.le_trans (by first | exact HK.out.1 | exact (show Kept w _ (fun k_ => P0_ k_) from by repeat (first | (with_reducible first | exact HK.out | apply Kept.alloc | apply Kept.drewN | apply Kept.drew) | exact HK.out)).1) hk)))); (case aO => exact (xR HO0.out)); (case aS => exact (below_size (xB HB.out))); (case aL => have := LMc6.out; omega); intro v112 w15 ho hb hg hat; rw [← Ny111.out] at ho; have n0_ := aM (hb); have n1_ := aM (Kept.of_grown (S := (fun k_ => P0_ k_)) hg (by repeat (first | (with_reducible first | exact HK.out | apply Kept.alloc | apply Kept.drewN | apply Kept.drew) | exact HK.out)) (fun k_ e_ => (HO0.out.1 k_ e_))); have n2_ := aM (ho); clear HB; clear HK; clear HO0; have HB := n0_; have HK := n1_; have HO113 := n2_; clear n0_ n1_ n2_; clear ho hb hg hat) | ((with_reducible refine gate_builtin (b := .append) (xs := #[.tmp 27, .tmp 28]) rfl ?_); at_builtin; refine Kd.R_append_rows (Kd.int .u8) (w0 := w0) w0.heap.size rfl (.tmp 27) (.tmp 28) 22 5 (.int .u8 0) 1 rfl Try.underlying22 info5 rfl (by decide) (by omega) v112 y111 l1 _ _ _ (fun k_ => (P0_ k_ ∨ w.heap.size ≤ k_)) (fun _ => False) rfl rfl ?aO ?aR (fun _ _ h => h) (fun _ h => h.elim) ?aF ?aB ?aS ?aL ?_; (case aR => exact Kd.C_kept_now HR1.out (by repeat (first | (with_reducible first | exact HK.out | apply Kept.alloc | apply Kept.drewN | apply Kept.drew) | exact HK.out))); (case aB => exact (xB HB.out)); (case aF => exact (fun k_ hk => (.inr (Nat.le_trans (by first | exact HK.out.1 | exact (show Kept w _ (fun k_ => P0_ k_) from by repeat (first | (with_reducible first | exact HK.out | apply Kept.alloc | apply Kept.drewN | apply Kept.drew) | exact HK.out)).1) hk)))); (case aO => exact (xR HO113.out)); (case aS => exact (below_size (xB HB.out))); (case aL => have := LMc14.out; omega); intro v121 w16 ho hb hg hat; rw [← Ny120.out] at ho; have n0_ := aM (hb); have n1_ := aM (Kept.of_grown (S := (fun k_ => P0_ k_)) hg (by repeat (first | (with_reducible first | exact HK.out | apply Kept.alloc | apply Kept.drewN | apply Kept.drew) | exact HK.out)) (fun k_ e_ => (HO113.out.1 k_ e_))); have n2_ := aM (ho); clear HB; clear HK; clear HO113; have HB := n0_; have HK := n1_; have HO122 := n2_; clear n0_ n1_ n2_; clear ho hb hg hat))
    go_ret
    exact ⟨_, by first | rfl | (simp [errW_none, errW_some] <;> rfl) | (simp only [← hji4, ← hji5]; first | rfl | (simp [errW_none, errW_some] <;> rfl)) | (simp [*, errW_none, errW_some] <;> rfl), by (with_reducible repeat (first | apply Kd.R_alloc | apply Kd.R_drewN | apply Kd.R_drew)); exact HO122.out, xB HB.out, by repeat (first | (with_reducible first | exact HK.out | apply Kept.alloc | apply Kept.drewN | apply Kept.drew) | exact HK.out)⟩
   ·
    rw [if_neg c14] at H
    exact absurd H (by simp)
 ·
  rw [if_neg c6] at H
  exact absurd H (by simp)
end Go.Proofs.Ythaifibhflfpkaa.Q
end
