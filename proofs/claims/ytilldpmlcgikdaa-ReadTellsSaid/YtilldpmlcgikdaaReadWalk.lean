/- The reader's methods: what each takes, what it throws. -/
import Derived.Test.YtilldpmlcgikdaaPx0
import Derived.Test.YtilldpmlcgikdaaBase
import Derived.Test.YtilldpmlcgikdaaReadSpec
import Derived.Test.YtilldpmlcgikdaaPx32
import Derived.WalkLawsBesides
import Derived.Deep.RegionWith
import Derived.Recover
import Derived.Defers
import Derived.RegionTactic
set_option linter.unusedVariables false
set_option linter.unusedSimpArgs false
namespace Go.Proofs.Ytilldpmlcgikdaa.P
open Go.RowKit Go.Proofs.YtilldpmlcgikdaaW.PrintWords Go.Proofs.YtilldpmlcgikdaaW.PrintLast Go.Proofs.YtilldpmlcgikdaaW.PrintMore Go.Proofs.Ytilldpmlcgikdaa.Base
abbrev Tok := S38
theorem index_loop (l : List Int) (a : Int) (hm : l.length ≤ 140737488355328) (d : Nat) : ∀ (k i : Nat), l.length - i = d → d < k → i ≤ l.length → ∃ r, slices_Index_int_int.l0 k l a (l.length : Int) (i : Int) = some r ∧ (0 ≤ r ↔ a ∈ l.drop i) := by
  induction d with
  | zero =>
    intro k i hd hk hi
    obtain ⟨k, rfl⟩ : ∃ m, k = m + 1 := ⟨k - 1, by omega⟩
    refine ⟨-1, ?_, ?_⟩
    · simp only [slices_Index_int_int.l0]; rw [if_neg (by omega)]
    · rw [List.drop_of_length_le (by omega)]; simp
  | succ d ih =>
    intro k i hd hk hi
    obtain ⟨k, rfl⟩ : ∃ m, k = m + 1 := ⟨k - 1, by omega⟩
    have hlt : i < l.length := by omega
    have hr : rd l (i : Int) = l[i] := by
      unfold rd; rw [Int.toNat_natCast, List.getD_eq_getElem?_getD, List.getElem?_eq_getElem hlt]; rfl
    simp only [slices_Index_int_int.l0]
    rw [if_pos (by omega), if_pos (by omega), if_pos (by omega), hr, List.drop_eq_getElem_cons hlt]
    by_cases h : a = l[i]
    · rw [if_pos h]
      exact ⟨(i : Int), rfl, by simp only [List.mem_cons, h, true_or, iff_true]; omega⟩
    · rw [if_neg h, show wrap64 ((i : Int) + 1) = ((i + 1 : Nat) : Int) from by unfold wrap64; omega]
      obtain ⟨r, h1, h2⟩ := ih k (i + 1) (by omega) (by omega) (by omega)
      exact ⟨r, h1, by rw [h2]; simp only [List.mem_cons, h, false_or]⟩
theorem contains_is (k : Nat) (l : List Int) (a : Int) (hm : l.length ≤ 140737488355328) (hk : l.length < k) : slices_Contains_int_int.f k l a = some (decide (a ∈ l)) := by
  unfold slices_Contains_int_int.f slices_Index_int_int.f
  obtain ⟨r, h1, h2⟩ := index_loop l a hm l.length k 0 (by omega) hk (by omega)
  rw [show ((0 : Nat) : Int) = 0 from rfl] at h1
  rw [h1, Option.bind_some]
  congr 1
  rw [Bool.eq_iff_iff]
  simp only [decide_eq_true_eq, ge_iff_le]
  simpa using h2
/-- A fault that is thrown. -/
def thrown (e at_ : Int) : List PanicEntry := [{ v := .iface 28 (.agg #[.int .i64 e, .int .i64 at_]), recovered := false }]
set_option maxHeartbeats 1600000 in
theorem next_end (W : World) (g : Nat) (A : Option Addr) (c : Nat) (e : Int) (ov : Value) (K : Option Addr) (kn kc : Nat) (BK : W.heap[g]? = some (.cells #[.slice A 0 c, .int .i64 e, ov] 51 (0, 0))) :
    Calls Try.prog 22 #[.pointer (some ⟨g, 0, none⟩), .slice K kn kc] W fun e' w' => e' = .panicked (thrown 12 e) ∧ Below W.heap.size W w' := by
  have c0 : W.cell? ⟨g, 0, none⟩ = some (.slice A 0 c) := (blk_cell BK 0).trans rfl
  have c1 : W.cell? ⟨g, 1, none⟩ = some (.int .i64 e) := (blk_cell BK 1).trans rfl
  have ll := blk_lt BK
  clear BK
  go_enter Try.func22, Try.ntmps22
  go_wp2
  exact ⟨rfl, rfl, by with_reducible repeat (first | exact Below.refl _ _ | apply below_alloc | apply pw_below_drewN | apply below_drew1)⟩
/-- The same store in two worlds that are alike below B. -/
theorem below_same {B : Nat} {a b : World} (h : Below B a b) (p : Addr) (v : Value) : Below B (a.setCell p v) (b.setCell p v) := by
  refine ⟨h.os, h.tape, h.output, by simpa [World.setCell] using h.size, fun k hk => ?_⟩
  have := h.block k hk
  simp only [World.setCell, Array.getElem?_modify]
  rw [this]
theorem add0 (a : Addr) : a.add 0 = a := by
  unfold Addr.add
  split <;> simp_all
theorem tok0 {w : World} {A : Option Addr} {t : Tok} {l : List Tok} (h : Kd.C k38 w A (t :: l).length (t :: l)) : ∃ ad, A = some ad ∧ w.cell? ad = some (.int .i64 t.f0) ∧ w.cell? ⟨ad.block, ad.off + 1, none⟩ = some (.string t.f1) ∧ w.cell? ⟨ad.block, ad.off + 2, none⟩ = some (.int .i64 t.f2) ∧ ad.block < w.heap.size := by
  obtain ⟨ad, hA, h0, h1, h2⟩ := at_T38 h 0 (by omega) (by simp)
  simp only [Int.toNat_zero, Nat.zero_mul, add0] at h0 h1 h2
  exact ⟨ad, hA, h0, h1, h2, World.block_lt_of_cell? w ad h0⟩
set_option maxHeartbeats 3200000 in
theorem next_bad (W : World) (g : Nat) (A : Option Addr) (c : Nat) (e : Int) (ov : Value) (t : Tok) (l : List Tok) (K : Option Addr) (kc : Nat) (ks : List Int) (BK : W.heap[g]? = some (.cells #[.slice A (t :: l).length c, .int .i64 e, ov] 51 (0, 0)))
    (hC : Kd.C k38 W A (t :: l).length (t :: l)) (hK : Kd.C (Kd.int .i64) W K ks.length ks) (hkc : ks.length ≤ kc) (hk : ks.length ≤ 1000) (hno : t.f0 ∉ ks) :
    Calls Try.prog 22 #[.pointer (some ⟨g, 0, none⟩), .slice K ks.length kc] W fun e' w' => e' = .panicked (thrown 12 t.f2) ∧ Below W.heap.size W w' := by
  have c0 : W.cell? ⟨g, 0, none⟩ = some (.slice A (t :: l).length c) := (blk_cell BK 0).trans rfl
  have ll := blk_lt BK
  have HC := Aside0.mk (contains_is 1001 ks t.f0 (by omega) (by omega))
  rw [decide_eq_false hno] at HC
  have HK := Aside0.mk hK
  have HKC := Aside0.mk hkc
  obtain ⟨ad, hA, h0, h1, h2, hb⟩ := tok0 hC
  have hn : (t :: l).length ≠ 0 := by simp
  obtain ⟨n, hn'⟩ : ∃ n, (t :: l).length = n := ⟨_, rfl⟩
  rw [hn'] at c0 hn
  subst hA
  clear BK hno hK hkc hC hn'
  have k1 : ((n : Int) == 0) = false := beq_eq_false_iff_ne.2 (by omega)
  go_enter Try.func22, Try.ntmps22
  go_wp2_with (first | (go_at_call 32; refine (slices_Contains_int_int.calls 1001 K kc ks t.f0 false _ (Kd.C_below HK.out (by with_reducible repeat (first | exact Below.refl _ _ | apply below_alloc | apply pw_below_drewN | apply below_drew1 | refine below_set ?_ (by simp)))) HKC.out HC.out).mono ?_; rintro e w3 ⟨rfl, ⟨nd, rfl⟩⟩))
  exact ⟨rfl, rfl, by with_reducible repeat (first | exact Below.refl _ _ | apply below_alloc | apply pw_below_drewN | apply below_drew1 | refine below_set ?_ (Nat.le_succ _))⟩
set_option maxHeartbeats 3200000 in
theorem next_ok (W : World) (g : Nat) (A : Option Addr) (c : Nat) (e : Int) (ov : Value) (t : Tok) (l : List Tok) (K : Option Addr) (kc : Nat) (ks : List Int) (BK : W.heap[g]? = some (.cells #[.slice A (t :: l).length c, .int .i64 e, ov] 51 (0, 0)))
    (hC : Kd.C k38 W A (t :: l).length (t :: l)) (hlc : (t :: l).length ≤ c) (hK : Kd.C (Kd.int .i64) W K ks.length ks) (hkc : ks.length ≤ kc) (hk : ks.length ≤ 1000) (hyes : t.f0 ∈ ks) :
    Calls Try.prog 22 #[.pointer (some ⟨g, 0, none⟩), .slice K ks.length kc] W fun e' w' => e' = .returned (.agg #[.int .i64 t.f0, .string t.f1, .int .i64 t.f2]) ∧ Below W.heap.size (W.setCell ⟨g, 0, none⟩ (.slice (if c = 1 then A else A.map (·.add 3)) l.length (c - 1))) w' := by
  have c0 : W.cell? ⟨g, 0, none⟩ = some (.slice A (t :: l).length c) := (blk_cell BK 0).trans rfl
  have f0 := blk_frozen BK 0
  have ll := blk_lt BK
  have HC := Aside0.mk (contains_is 1001 ks t.f0 (by omega) (by omega))
  rw [decide_eq_true hyes] at HC
  have HK := Aside0.mk hK
  have HKC := Aside0.mk hkc
  obtain ⟨ad, hA, h0, h1, h2, hb⟩ := tok0 hC
  have hn : (t :: l).length ≠ 0 := by simp
  obtain ⟨i0, hi0, _, hsz, _⟩ := info_parts info38
  have hcut := cut_from (P := Try.prog) 22 38 .i64 Try.underlying22 hi0 3 hsz A (t :: l).length c 1 (by omega) (by rw [List.length_cons]; omega)
  have hl1 : (t :: l).length - 1 = l.length := by simp
  obtain ⟨n, hn'⟩ : ∃ n, (t :: l).length = n := ⟨_, rfl⟩
  rw [hn'] at c0 hn hcut hl1
  simp only [show Int.toNat 1 = 1 from rfl, Nat.one_mul, hl1] at hcut
  subst hA
  have k1 : ((n : Int) == 0) = false := beq_eq_false_iff_ne.2 (by omega)
  generalize (if c = 1 then some ad else Option.map (fun x => x.add 3) (some ad)) = A' at *
  have hsl := fun W' => hcut W'
  clear BK hyes hK hkc hC hn' hlc hl1 hcut hi0 hsz
  go_enter Try.func22, Try.ntmps22
  go_wp2_with (first | (go_at_call 32; refine (slices_Contains_int_int.calls 1001 K kc ks t.f0 true _ (Kd.C_below HK.out (by with_reducible repeat (first | exact Below.refl _ _ | apply below_alloc | apply pw_below_drewN | apply below_drew1 | refine below_set ?_ (by simp)))) HKC.out HC.out).mono ?_; rintro e w3 ⟨rfl, ⟨nd, rfl⟩⟩))
  have hS : ∀ W3 : World, W3.heap[W.heap.size]? = some (.cells #[.int .i64 0, .string ⟨#[]⟩, .int .i64 0] 38 (0, 0)) → (((W3.setCell ⟨W.heap.size, 0, none⟩ (.int .i64 t.f0)).setCell ⟨W.heap.size, 1, none⟩ (.string t.f1)).setCell ⟨W.heap.size, 2, none⟩ (.int .i64 t.f2)).heap[W.heap.size]? = some (.cells #[.int .i64 t.f0, .string t.f1, .int .i64 t.f2] 38 (0, 0)) := fun W3 h => by
    refine blk_put (cs := #[.int .i64 t.f0, .string t.f1, .int .i64 0]) ?_ 2 _ rfl
    refine blk_put (cs := #[.int .i64 t.f0, .string ⟨#[]⟩, .int .i64 0]) ?_ 1 _ rfl
    exact blk_put (cs := #[.int .i64 0, .string ⟨#[]⟩, .int .i64 0]) h 0 _ rfl
  refine bodyPost_ret (results_cell_row rfl _ _ W.heap.size 38 #[.int .i64 t.f0, .string t.f1, .int .i64 t.f2] (0, 0) _ rfl (hS _ ?_) Try.underlying38 rfl (by kernel_rfl)) rfl ⟨rfl, ?_⟩
  · exact blk_far (blk_drewN (blk_alloc (blk_new _ _) _) _) (by simp; omega) _
  · exact ((((below_same (pw_below_drewN (below_alloc (below_alloc (Below.refl _ _) _) _) _) _ _).setCell (Nat.le_refl _) _).setCell (Nat.le_refl _) _).setCell (Nat.le_refl _) _)
theorem C_lit (W : World) (t : TypeId) (xs : List Int) (hx : xs.length ≤ 1000) : Kd.C (Kd.int .i64) (W.alloc (.cells (xs.map (Value.int .i64)).toArray t (0, 0))) (some ⟨W.heap.size, 0, none⟩) xs.length xs := by
  refine ⟨rfl, by omega, fun _ => ⟨_, rfl, fun j p hp => ⟨[.int .i64 p], rfl, rfl, fun i u hi => ?_⟩⟩⟩
  have hj : j < xs.length := by
    rcases Nat.lt_or_ge j xs.length with h | h
    · exact h
    · rw [List.getElem?_eq_none h] at hp; cases hp
  cases i with
  | succ i => simp at hi
  | zero =>
    simp only [List.getElem?_cons_zero, Option.some.injEq] at hi
    subst hi
    have h1 := blk_cell (blk_new W (.cells (xs.map (Value.int .i64)).toArray t (0, 0))) j
    have e : ((⟨W.heap.size, 0, none⟩ : Addr).add (j * (Kd.int IntKind.i64).sz + 0)) = ⟨W.heap.size, j, none⟩ := by
      rw [add_at]
      simp [Kd.int, Kd.scalar]
    rw [e, h1]
    simp only [List.getElem?_toArray, List.getElem?_map, hp, Option.map_some]
/-- An alternative, read on: its words; its end, and what is left. -/
def altGo (left : Tok) (e : Int) (n : Nat) : List Tok → List Tok → Except (Int × Int) (List Tok × Tok × List Tok)
  | [], _ => .error (12, e)
  | t :: l, r =>
    if t.f0 = 1 ∨ t.f0 = 2 then altGo left e n l (r ++ [t])
    else if t.f0 = 4 ∨ t.f0 = 5 then (if 60 ≤ n ∨ 8 < r.length then .error (14, left.f2) else .ok (r, t, l))
    else .error (12, t.f2)
/-- How many tokens are left. -/
def firstLen : Option Value → Nat
  | some (Value.slice _ n _) => n
  | _ => 0
def lenAt (g : Nat) (w : World) : Nat := firstLen (w.cell? ⟨g, 0, none⟩)
theorem lenAt_of {g : Nat} {w : World} {A : Option Addr} {n c : Nat} {x y : Value} {t : TypeId} (h : w.heap[g]? = some (.cells #[.slice A n c, x, y] t (0, 0))) : lenAt g w = n := by
  unfold lenAt
  rw [(blk_cell h 0).trans rfl]
  rfl
/-- What holds at each round of an alternative: the reader, the left side's copy, the alternative as it is. -/
structure AltAt (w0 W : World) (g : Nat) (e : Int) (out : List S40) (left : Tok) (l r : List Tok) (A : Option Addr) (c : Nat) (ov rv : Value) (w' : World) : Prop where
  rd : w'.heap[g]? = some (.cells #[.slice A l.length c, .int .i64 e, ov] 51 (0, 0))
  lc : l.length ≤ c
  C : Kd.C k38 w0 A l.length l
  O : Kd.R k40 40 w' w0.heap.size (fun k => k ≠ W.heap.size + 1 ∧ some k ≠ rv.ownBlock) ov out
  b3 : w'.heap[W.heap.size]? = some (.cells #[.int .i64 left.f0, .string left.f1, .int .i64 left.f2] 38 (0, 0))
  b5 : w'.heap[W.heap.size + 1]? = some (.cells #[.int .i64 left.f0, .string left.f1, .int .i64 left.f2, rv] 40 (0, 0))
  R : Kd.R k38 38 w' W.heap.size (fun k => k ≠ W.heap.size) rv r
  B : Below w0.heap.size w0 w'
  kept : ∀ k, k < W.heap.size → k ≠ g → w'.heap[k]? = W.heap[k]?
  size : W.heap.size + 1 < w'.heap.size
/-- What the reader holds. -/
def Reader (w0 W : World) (g : Nat) (l : List Tok) (e : Int) (out : List S40) : Prop :=
  ∃ A c ov, W.heap[g]? = some (.cells #[.slice A l.length c, .int .i64 e, ov] 51 (0, 0)) ∧ l.length ≤ c ∧ Kd.C k38 w0 A l.length l ∧ Kd.R k40 40 W w0.heap.size (fun _ => True) ov out ∧ Below w0.heap.size w0 W ∧ w0.heap.size ≤ g
/-- What a method leaves as it was: all but the reader and the alternatives' row. -/
def Kept (W W' : World) (g : Nat) : Prop := W.heap.size ≤ W'.heap.size ∧ ∀ k cells t, W.heap[k]? = some (.cells cells t (0, 0)) → k ≠ g → t ≠ 40 → W'.heap[k]? = W.heap[k]?
def AltEnd (w0 W : World) (g : Nat) (left : Tok) (e : Int) (out : List S40) (o : Except (Int × Int) (List Tok × Tok × List Tok)) (e' : Ending) (W' : World) : Prop :=
  match o with
  | .ok (r, t, l') => e' = .returned (.bool (decide (t.f0 = 4))) ∧ Reader w0 W' g l' e (out ++ [⟨left, r⟩]) ∧ Kept W W' g
  | .error (c, p) => e' = .panicked (thrown c p) ∧ Below w0.heap.size w0 W' ∧ Kept W W' g
section
variable {w0 W : World} {g : Nat} {e : Int} {out : List S40} {left : Tok} {l r : List Tok} {A : Option Addr} {c : Nat} {ov rv : Value} {w1 w2 : World}
theorem AltAt.below (h : AltAt w0 W g e out left l r A c ov rv w1) (hb : Below w1.heap.size w1 w2) : AltAt w0 W g e out left l r A c ov rv w2 :=
  ⟨blk_below h.rd hb, h.lc, h.C, Kd.R_below h.O hb, blk_below h.b3 hb, blk_below h.b5 hb, Kd.R_below h.R hb, below_step h.B hb, fun k hk hg => (hb.block k (by have := h.size; omega)).trans (h.kept k hk hg), Nat.lt_of_lt_of_le h.size hb.size⟩
theorem AltAt.kept' (h : AltAt w0 W g e out left l r A c ov rv w1) (hb : Below w1.heap.size w1 w2) : Kept W w2 g :=
  ⟨Nat.le_trans (Nat.le_trans (Nat.le_succ _) (Nat.le_of_lt h.size)) hb.size, fun k cells t hk hne _ => (hb.block k (by have := h.size; have := blk_lt hk; omega)).trans (h.kept k (blk_lt hk) hne)⟩
theorem AltAt.alloc (h : AltAt w0 W g e out left l r A c ov rv w1) (o : Obj) : AltAt w0 W g e out left l r A c ov rv (w1.alloc o) := h.below (below_alloc (Below.refl _ _) o)
theorem AltAt.next {t : Tok} (hg : g < W.heap.size) (hg0 : w0.heap.size ≤ g) (h : AltAt w0 W g e out left (t :: l) r A c ov rv w1) (hb : Below w1.heap.size (w1.setCell ⟨g, 0, none⟩ (.slice (if c = 1 then A else A.map (·.add 3)) l.length (c - 1))) w2) :
    AltAt w0 W g e out left l r (if c = 1 then A else A.map (·.add 3)) (c - 1) ov rv w2 := by
  have hsz : (w1.setCell ⟨g, 0, none⟩ (.slice (if c = 1 then A else A.map (·.add 3)) l.length (c - 1))).heap.size = w1.heap.size := by simp [World.setCell]
  have h1 : AltAt w0 W g e out left l r (if c = 1 then A else A.map (·.add 3)) (c - 1) ov rv (w1.setCell ⟨g, 0, none⟩ (.slice (if c = 1 then A else A.map (·.add 3)) l.length (c - 1))) := by
    refine ⟨blk_put (cs := #[.slice A (t :: l).length c, .int .i64 e, ov]) h.rd 0 _ rfl, ?_, ?_, Kd.R_set h.O h.rd (by decide) 0 _, blk_far h.b3 (by simp; omega) _, blk_far h.b5 (by simp; omega) _, Kd.R_set h.R h.rd (by decide) 0 _, below_set h.B hg0, ?_, ?_⟩
    · have := h.lc; simp only [List.length_cons] at this; omega
    · have := Kd.C_drop (m := 1) h.C (by simp) h.lc
      exact this
    · intro k hk hne
      rw [Below.heap_setCell _ _ _ _ hne]
      exact h.kept k hk hne
    · rw [hsz]; exact h.size
  exact h1.below (by rw [hsz]; exact hb)
/-- A word more. -/
theorem AltAt.more {t : Tok} {v1 : Value} (hg : g < W.heap.size) (hw : w0.heap.size ≤ W.heap.size) (h : AltAt w0 W g e out left l r A c ov rv w1) (ho : Kd.R k38 38 w2 W.heap.size (fun k => k ≠ W.heap.size) v1 (r ++ [t])) (hgr : w1.grownBy w2 rv.ownBlock)
    (hat : v1.ownBlock = rv.ownBlock ∨ ∃ b, v1.ownBlock = some b ∧ w1.heap.size ≤ b) : AltAt w0 W g e out left l (r ++ [t]) A c ov v1 (w2.setCell ⟨W.heap.size + 1, 3, none⟩ v1) := by
  have hbase := Kd.R_base h.R
  have n3 : some W.heap.size ≠ rv.ownBlock := Kd.R_away h.R (fun _ hk => hk)
  have hs := h.size
  have b5' := blk_grown h.b5 hgr (Kd.R_ne h.R h.b5 (by decide))
  have hO : Kd.R k40 40 w2 w0.heap.size (fun k => k ≠ W.heap.size + 1 ∧ some k ≠ v1.ownBlock) ov out := Kd.R_after h.O hgr hat
  refine ⟨blk_far (blk_grown h.rd hgr (Kd.R_ne h.R h.rd (by decide))) (by simp; omega) _, h.lc, h.C, Kd.R_far hO (fun _ hk => hk.1) _, blk_far (blk_grown h.b3 hgr n3) (by simp) _, blk_put (cs := #[.int .i64 left.f0, .string left.f1, .int .i64 left.f2, rv]) b5' 3 _ rfl, Kd.R_set ho b5' (by decide) 3 _, ?_, ?_, ?_⟩
  · exact (h.B.grown hgr (by omega) (fun k hk => Nat.le_trans hw (hbase k hk))).setCell (Nat.le_succ_of_le hw) _
  · intro k hk hne
    rw [Below.heap_setCell _ _ _ _ (by simp; omega)]
    refine (hgr.block k (by omega) (fun he => ?_)).trans (h.kept k hk hne)
    have := hbase k he.symm
    omega
  · have := hgr.size
    simp [World.setCell]
    omega
end
end Go.Proofs.Ytilldpmlcgikdaa.P
