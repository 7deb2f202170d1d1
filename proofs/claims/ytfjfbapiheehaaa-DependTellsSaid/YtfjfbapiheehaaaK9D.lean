/- What D needs of this session's own texts, part 9: put together by wip/dce.py. -/
import Derived.Test.YtfjfbapiheehaaaK8D
import Derived.WalkLawsBesides
import Derived.Deep.RegionWith
import Derived.Recover
import Derived.Defers
import Derived.RegionTactic
section
set_option linter.unusedVariables false
set_option linter.unusedSimpArgs false
namespace Go.Proofs.Ytfjfbapiheehaaa.P
open Go.RowKit Go.Proofs.YtfjfbapiheehaaaW.PrintWords Go.Proofs.YtfjfbapiheehaaaW.PrintLast Go.Proofs.YtfjfbapiheehaaaW.PrintMore Go.Proofs.Ytfjfbapiheehaaa.Base
abbrev Tok := S82
theorem index_loop (l : List Int) (a : Int) (hm : l.length ≤ 140737488355328) (d : Nat) : ∀ (k i : Nat), l.length - i = d → d < k → i ≤ l.length → ∃ r, slices_Index_int_int.l0 k l a (l.length : Int) (i : Int) = some r ∧ (0 ≤ r ↔ a ∈ l.drop i) := by
 induction d with
 | zero =>
  intro k i hd hk hi
  obtain ⟨k, rfl⟩ : ∃ m, k = m + 1 := ⟨k - 1, by omega⟩
  refine ⟨-1, ?_, ?_⟩
  ·simp only [slices_Index_int_int.l0]; rw [if_neg (by omega)]
  ·rw [List.drop_of_length_le (by omega)]; simp
 | succ d ih =>
  intro k i hd hk hi
  obtain ⟨k, rfl⟩ : ∃ m, k = m + 1 := ⟨k - 1, by omega⟩
  have hlt : i < l.length := by omega
  have hr : rd l (i : Int) = l[i] := by
   unfold rd; rw [Int.toNat_natCast, List.getD_eq_getElem?_getD, List.getElem?_eq_getElem hlt]; rfl
  simp only [slices_Index_int_int.l0]
  rw [if_pos (by omega), if_pos (by omega), if_pos (by omega), hr, List.drop_eq_getElem_cons hlt]
  by_cases h : a = l[i]
  ·rw [if_pos h]
   exact ⟨(i : Int), rfl, by simp only [List.mem_cons, h, true_or, iff_true]; omega⟩
  ·rw [if_neg h, show wrap64 ((i : Int) + 1) = ((i + 1 : Nat) : Int) from by unfold wrap64; omega]
   obtain ⟨r, h1, h2⟩ := ih k (i + 1) (by omega) (by omega) (by omega)
   exact ⟨r, h1, by rw [h2]; simp only [List.mem_cons, h, false_or]⟩
theorem contains_is (k : Nat) (l : List Int) (a : Int) (hm : l.length ≤ 140737488355328) (hk : l.length < k) : slices_Contains_int_int.f k l a = some (decide (a ∈ l)) := by
 unfold slices_Contains_int_int.f slices_Index_int_int.f
 obtain ⟨r, h1, h2⟩ := index_loop l a hm l.length k 0 (by omega) hk (by omega)
 rw [show ((0 : Nat) : Int) = 0 from rfl] at h1
 rw [h1, Option.bind_some]
 congr 1
 rw [Bool.eq_iff_iff]
 simp only [decide_eq_true_eq, ge_iff_le]
 simpa using h2
def thrown (e at_ : Int) : List PanicEntry := [{ v := .iface 53 (.agg #[.int .i64 e, .int .i64 at_]), recovered := false }]
set_option maxHeartbeats 1600000 in
theorem next_end (W : World) (g : Nat) (A : Option Addr) (c : Nat) (e : Int) (ov : Value) (K : Option Addr) (kn kc : Nat) (BK : W.heap[g]? = some (.cells #[.slice A 0 c, .int .i64 e, ov] 106 (0, 0))) :
  Calls Try.prog 90 #[.pointer (some ⟨g, 0, none⟩), .slice K kn kc] W fun e' w' => e' = .panicked (thrown 12 e) ∧ Below W.heap.size W w' := by
 have c0 : W.cell? ⟨g, 0, none⟩ = some (.slice A 0 c) := (blk_cell BK 0).trans rfl
 have c1 : W.cell? ⟨g, 1, none⟩ = some (.int .i64 e) := (blk_cell BK 1).trans rfl
 have ll := blk_lt BK
 clear BK
 go_enter Try.func90, Try.ntmps90
 go_wp2
 exact ⟨rfl, rfl, by with_reducible repeat (first | exact Below.refl _ _ | apply below_alloc | apply pw_below_drewN | apply below_drew1)⟩
theorem below_same {B : Nat} {a b : World} (h : Below B a b) (p : Addr) (v : Value) : Below B (a.setCell p v) (b.setCell p v) := by
 refine ⟨h.os, h.tape, h.output, by simpa [World.setCell] using h.size, fun k hk => ?_⟩
 have := h.block k hk
 simp only [World.setCell, Array.getElem?_modify]
 rw [this]
theorem add0 (a : Addr) : a.add 0 = a := by
 unfold Addr.add
 split <;> simp_all
theorem tok0 {w : World} {A : Option Addr} {t : Tok} {l : List Tok} (h : Kd.C k82 w A (t :: l).length (t :: l)) : ∃ ad, A = some ad ∧ w.cell? ad = some (.int .i64 t.f0) ∧ w.cell? ⟨ad.block, ad.off + 1, none⟩ = some (.string t.f1) ∧ w.cell? ⟨ad.block, ad.off + 2, none⟩ = some (.int .i64 t.f2) ∧ ad.block < w.heap.size := by
 obtain ⟨ad, hA, h0, h1, h2⟩ := at_T82 h 0 (by omega) (by simp)
 simp only [Int.toNat_zero, Nat.zero_mul, add0] at h0 h1 h2
 exact ⟨ad, hA, h0, h1, h2, World.block_lt_of_cell? w ad h0⟩
set_option maxHeartbeats 3200000 in
theorem next_bad (W : World) (g : Nat) (A : Option Addr) (c : Nat) (e : Int) (ov : Value) (t : Tok) (l : List Tok) (K : Option Addr) (kc : Nat) (ks : List Int) (BK : W.heap[g]? = some (.cells #[.slice A (t :: l).length c, .int .i64 e, ov] 106 (0, 0)))
  (hC : Kd.C k82 W A (t :: l).length (t :: l)) (hK : Kd.C (Kd.int .i64) W K ks.length ks) (hkc : ks.length ≤ kc) (hk : ks.length ≤ 1000) (hno : t.f0 ∉ ks) :
  Calls Try.prog 90 #[.pointer (some ⟨g, 0, none⟩), .slice K ks.length kc] W fun e' w' => e' = .panicked (thrown 12 t.f2) ∧ Below W.heap.size W w' := by
 have c0 : W.cell? ⟨g, 0, none⟩ = some (.slice A (t :: l).length c) := (blk_cell BK 0).trans rfl
 have ll := blk_lt BK
 have HC := Aside0.mk (contains_is 1001 ks t.f0 (by omega) (by omega))
 rw [decide_eq_false hno] at HC
 have HK := Aside0.mk hK
 have HKC := Aside0.mk hkc
 obtain ⟨ad, hA, h0, h1, h2, hb⟩ := tok0 hC
 have hn : (t :: l).length ≠ 0 := by simp
 obtain ⟨n, hn'⟩ : ∃ n, (t :: l).length = n := ⟨_, rfl⟩
 rw [hn'] at c0 hn
 subst hA
 clear BK hno hK hkc hC hn'
 have k1 : ((n : Int) == 0) = false := beq_eq_false_iff_ne.2 (by omega)
 go_enter Try.func90, Try.ntmps90
 go_wp2_with (first | (go_at_call 95; refine (slices_Contains_int_int.calls 1001 K kc ks t.f0 false _ (Kd.C_below HK.out (by with_reducible repeat (first | exact Below.refl _ _ | apply below_alloc | apply pw_below_drewN | apply below_drew1 | refine below_set ?_ (by simp)))) HKC.out HC.out).mono ?_; rintro e w3 ⟨rfl, ⟨nd, rfl⟩⟩))
 exact ⟨rfl, rfl, by with_reducible repeat (first | exact Below.refl _ _ | apply below_alloc | apply pw_below_drewN | apply below_drew1 | refine below_set ?_ (Nat.le_succ _))⟩
set_option maxHeartbeats 3200000 in
theorem next_ok (W : World) (g : Nat) (A : Option Addr) (c : Nat) (e : Int) (ov : Value) (t : Tok) (l : List Tok) (K : Option Addr) (kc : Nat) (ks : List Int) (BK : W.heap[g]? = some (.cells #[.slice A (t :: l).length c, .int .i64 e, ov] 106 (0, 0)))
  (hC : Kd.C k82 W A (t :: l).length (t :: l)) (hlc : (t :: l).length ≤ c) (hK : Kd.C (Kd.int .i64) W K ks.length ks) (hkc : ks.length ≤ kc) (hk : ks.length ≤ 1000) (hyes : t.f0 ∈ ks) :
  Calls Try.prog 90 #[.pointer (some ⟨g, 0, none⟩), .slice K ks.length kc] W fun e' w' => e' = .returned (.agg #[.int .i64 t.f0, .string t.f1, .int .i64 t.f2]) ∧ Below W.heap.size (W.setCell ⟨g, 0, none⟩ (.slice (if c = 1 then A else A.map (·.add 3)) l.length (c - 1))) w' := by
 have c0 : W.cell? ⟨g, 0, none⟩ = some (.slice A (t :: l).length c) := (blk_cell BK 0).trans rfl
 have f0 := blk_frozen BK 0
 have ll := blk_lt BK
 have HC := Aside0.mk (contains_is 1001 ks t.f0 (by omega) (by omega))
 rw [decide_eq_true hyes] at HC
 have HK := Aside0.mk hK
 have HKC := Aside0.mk hkc
 obtain ⟨ad, hA, h0, h1, h2, hb⟩ := tok0 hC
 have hn : (t :: l).length ≠ 0 := by simp
 obtain ⟨i0, hi0, _, hsz, _⟩ := info_parts info82
 have hcut := cut_from (P := Try.prog) 74 82 .i64 Try.underlying74 hi0 3 hsz A (t :: l).length c 1 (by omega) (by rw [List.length_cons]; omega)
 have hl1 : (t :: l).length - 1 = l.length := by simp
 obtain ⟨n, hn'⟩ : ∃ n, (t :: l).length = n := ⟨_, rfl⟩
 rw [hn'] at c0 hn hcut hl1
 simp only [show Int.toNat 1 = 1 from rfl, Nat.one_mul, hl1] at hcut
 subst hA
 have k1 : ((n : Int) == 0) = false := beq_eq_false_iff_ne.2 (by omega)
 generalize (if c = 1 then some ad else Option.map (fun x => x.add 3) (some ad)) = A' at *
 have hsl := fun W' => hcut W'
 clear BK hyes hK hkc hC hn' hlc hl1 hcut hi0 hsz
 go_enter Try.func90, Try.ntmps90
 go_wp2_with (first | (go_at_call 95; refine (slices_Contains_int_int.calls 1001 K kc ks t.f0 true _ (Kd.C_below HK.out (by with_reducible repeat (first | exact Below.refl _ _ | apply below_alloc | apply pw_below_drewN | apply below_drew1 | refine below_set ?_ (by simp)))) HKC.out HC.out).mono ?_; rintro e w3 ⟨rfl, ⟨nd, rfl⟩⟩))
 have hS : ∀ W3 : World, W3.heap[W.heap.size]? = some (.cells #[.int .i64 0, .string ⟨#[]⟩, .int .i64 0] 82 (0, 0)) → (((W3.setCell ⟨W.heap.size, 0, none⟩ (.int .i64 t.f0)).setCell ⟨W.heap.size, 1, none⟩ (.string t.f1)).setCell ⟨W.heap.size, 2, none⟩ (.int .i64 t.f2)).heap[W.heap.size]? = some (.cells #[.int .i64 t.f0, .string t.f1, .int .i64 t.f2] 82 (0, 0)) := fun W3 h => by
  refine blk_put (cs := #[.int .i64 t.f0, .string t.f1, .int .i64 0]) ?_ 2 _ rfl
  refine blk_put (cs := #[.int .i64 t.f0, .string ⟨#[]⟩, .int .i64 0]) ?_ 1 _ rfl
  exact blk_put (cs := #[.int .i64 0, .string ⟨#[]⟩, .int .i64 0]) h 0 _ rfl
 refine bodyPost_ret (results_cell_row rfl _ _ W.heap.size 82 #[.int .i64 t.f0, .string t.f1, .int .i64 t.f2] (0, 0) _ rfl (hS _ ?_) Try.underlying82 rfl (by kernel_rfl)) rfl ⟨rfl, ?_⟩
 ·exact blk_far (blk_drewN (blk_alloc (blk_new _ _) _) _) (by simp; omega) _
 ·exact ((((below_same (pw_below_drewN (below_alloc (below_alloc (Below.refl _ _) _) _) _) _ _).setCell (Nat.le_refl _) _).setCell (Nat.le_refl _) _).setCell (Nat.le_refl _) _)
theorem C_lit (W : World) (t : TypeId) (xs : List Int) (hx : xs.length ≤ 1000) : Kd.C (Kd.int .i64) (W.alloc (.cells (xs.map (Value.int .i64)).toArray t (0, 0))) (some ⟨W.heap.size, 0, none⟩) xs.length xs := by
 refine ⟨rfl, by omega, fun _ => ⟨_, rfl, fun j p hp => ⟨[.int .i64 p], rfl, rfl, fun i u hi => ?_⟩⟩⟩
 have hj : j < xs.length := by
  rcases Nat.lt_or_ge j xs.length with h | h
  ·exact h
  ·rw [List.getElem?_eq_none h] at hp; cases hp
 cases i with
 | succ i => simp at hi
 | zero =>
  simp only [List.getElem?_cons_zero, Option.some.injEq] at hi
  subst hi
  have h1 := blk_cell (blk_new W (.cells (xs.map (Value.int .i64)).toArray t (0, 0))) j
  have e : ((⟨W.heap.size, 0, none⟩ : Addr).add (j * (Kd.int IntKind.i64).sz + 0)) = ⟨W.heap.size, j, none⟩ := by
   rw [add_at]
   simp [Kd.int, Kd.scalar]
  rw [e, h1]
  simp only [List.getElem?_toArray, List.getElem?_map, hp, Option.map_some]
def altGo (left : Tok) (e : Int) (n : Nat) : List Tok → List Tok → Except (Int × Int) (List Tok × Tok × List Tok)
 | [], _ => .error (12, e)
 | t :: l, r =>
  if t.f0 = 1 ∨ t.f0 = 2 then altGo left e n l (r ++ [t])
  else if t.f0 = 4 ∨ t.f0 = 5 then (if 60 ≤ n ∨ 8 < r.length then .error (14, left.f2) else .ok (r, t, l))
  else .error (12, t.f2)
def firstLen : Option Value → Nat
 | some (Value.slice _ n _) => n
 | _ => 0
def lenAt (g : Nat) (w : World) : Nat := firstLen (w.cell? ⟨g, 0, none⟩)
theorem lenAt_of {g : Nat} {w : World} {A : Option Addr} {n c : Nat} {x y : Value} {t : TypeId} (h : w.heap[g]? = some (.cells #[.slice A n c, x, y] t (0, 0))) : lenAt g w = n := by
 unfold lenAt
 rw [(blk_cell h 0).trans rfl]
 rfl
structure AltAt (w0 W : World) (g : Nat) (e : Int) (out : List S84) (left : Tok) (l r : List Tok) (A : Option Addr) (c : Nat) (ov rv : Value) (w' : World) : Prop where
 rd : w'.heap[g]? = some (.cells #[.slice A l.length c, .int .i64 e, ov] 106 (0, 0))
 lc : l.length ≤ c
 C : Kd.C k82 w0 A l.length l
 O : Kd.R k84 84 w' w0.heap.size (fun k => k ≠ W.heap.size + 1 ∧ some k ≠ rv.ownBlock) ov out
 b3 : w'.heap[W.heap.size]? = some (.cells #[.int .i64 left.f0, .string left.f1, .int .i64 left.f2] 82 (0, 0))
 b5 : w'.heap[W.heap.size + 1]? = some (.cells #[.int .i64 left.f0, .string left.f1, .int .i64 left.f2, rv] 84 (0, 0))
 R : Kd.R k82 82 w' W.heap.size (fun k => k ≠ W.heap.size) rv r
 B : Below w0.heap.size w0 w'
 kept : ∀ k, k < W.heap.size → k ≠ g → w'.heap[k]? = W.heap[k]?
 size : W.heap.size + 1 < w'.heap.size
def Reader (w0 W : World) (g : Nat) (l : List Tok) (e : Int) (out : List S84) : Prop :=
 ∃ A c ov, W.heap[g]? = some (.cells #[.slice A l.length c, .int .i64 e, ov] 106 (0, 0)) ∧ l.length ≤ c ∧ Kd.C k82 w0 A l.length l ∧ Kd.R k84 84 W w0.heap.size (fun _ => True) ov out ∧ Below w0.heap.size w0 W ∧ w0.heap.size ≤ g
def Kept (W W' : World) (g : Nat) : Prop := W.heap.size ≤ W'.heap.size ∧ ∀ k cells t, W.heap[k]? = some (.cells cells t (0, 0)) → k ≠ g → t ≠ 84 → W'.heap[k]? = W.heap[k]?
def AltEnd (w0 W : World) (g : Nat) (left : Tok) (e : Int) (out : List S84) (o : Except (Int × Int) (List Tok × Tok × List Tok)) (e' : Ending) (W' : World) : Prop :=
 match o with
 | .ok (r, t, l') => e' = .returned (.bool (decide (t.f0 = 4))) ∧ Reader w0 W' g l' e (out ++ [⟨left, r⟩]) ∧ Kept W W' g
 | .error (c, p) => e' = .panicked (thrown c p) ∧ Below w0.heap.size w0 W' ∧ Kept W W' g
section
variable {w0 W : World} {g : Nat} {e : Int} {out : List S84} {left : Tok} {l r : List Tok} {A : Option Addr} {c : Nat} {ov rv : Value} {w1 w2 : World}
theorem AltAt.below (h : AltAt w0 W g e out left l r A c ov rv w1) (hb : Below w1.heap.size w1 w2) : AltAt w0 W g e out left l r A c ov rv w2 :=
 ⟨blk_below h.rd hb, h.lc, h.C, Kd.R_below h.O hb, blk_below h.b3 hb, blk_below h.b5 hb, Kd.R_below h.R hb, below_step h.B hb, fun k hk hg => (hb.block k (by have := h.size; omega)).trans (h.kept k hk hg), Nat.lt_of_lt_of_le h.size hb.size⟩
theorem AltAt.kept' (h : AltAt w0 W g e out left l r A c ov rv w1) (hb : Below w1.heap.size w1 w2) : Kept W w2 g :=
 ⟨Nat.le_trans (Nat.le_trans (Nat.le_succ _) (Nat.le_of_lt h.size)) hb.size, fun k cells t hk hne _ => (hb.block k (by have := h.size; have := blk_lt hk; omega)).trans (h.kept k (blk_lt hk) hne)⟩
theorem AltAt.alloc (h : AltAt w0 W g e out left l r A c ov rv w1) (o : Obj) : AltAt w0 W g e out left l r A c ov rv (w1.alloc o) := h.below (below_alloc (Below.refl _ _) o)
theorem AltAt.next {t : Tok} (hg : g < W.heap.size) (hg0 : w0.heap.size ≤ g) (h : AltAt w0 W g e out left (t :: l) r A c ov rv w1) (hb : Below w1.heap.size (w1.setCell ⟨g, 0, none⟩ (.slice (if c = 1 then A else A.map (·.add 3)) l.length (c - 1))) w2) :
  AltAt w0 W g e out left l r (if c = 1 then A else A.map (·.add 3)) (c - 1) ov rv w2 := by
 have hsz : (w1.setCell ⟨g, 0, none⟩ (.slice (if c = 1 then A else A.map (·.add 3)) l.length (c - 1))).heap.size = w1.heap.size := by simp [World.setCell]
 have h1 : AltAt w0 W g e out left l r (if c = 1 then A else A.map (·.add 3)) (c - 1) ov rv (w1.setCell ⟨g, 0, none⟩ (.slice (if c = 1 then A else A.map (·.add 3)) l.length (c - 1))) := by
  refine ⟨blk_put (cs := #[.slice A (t :: l).length c, .int .i64 e, ov]) h.rd 0 _ rfl, ?_, ?_, Kd.R_set h.O h.rd (by decide) 0 _, blk_far h.b3 (by simp; omega) _, blk_far h.b5 (by simp; omega) _, Kd.R_set h.R h.rd (by decide) 0 _, below_set h.B hg0, ?_, ?_⟩
  ·have := h.lc; simp only [List.length_cons] at this; omega
  ·have := Kd.C_drop (m := 1) h.C (by simp) h.lc
   exact this
  ·intro k hk hne
   rw [Below.heap_setCell _ _ _ _ hne]
   exact h.kept k hk hne
  ·rw [hsz]; exact h.size
 exact h1.below (by rw [hsz]; exact hb)
theorem AltAt.more {t : Tok} {v1 : Value} (hg : g < W.heap.size) (hw : w0.heap.size ≤ W.heap.size) (h : AltAt w0 W g e out left l r A c ov rv w1) (ho : Kd.R k82 82 w2 W.heap.size (fun k => k ≠ W.heap.size) v1 (r ++ [t])) (hgr : w1.grownBy w2 rv.ownBlock)
  (hat : v1.ownBlock = rv.ownBlock ∨ ∃ b, v1.ownBlock = some b ∧ w1.heap.size ≤ b) : AltAt w0 W g e out left l (r ++ [t]) A c ov v1 (w2.setCell ⟨W.heap.size + 1, 3, none⟩ v1) := by
 have hbase := Kd.R_base h.R
 have n3 : some W.heap.size ≠ rv.ownBlock := Kd.R_away h.R (fun _ hk => hk)
 have hs := h.size
 have b5' := blk_grown h.b5 hgr (Kd.R_ne h.R h.b5 (by decide))
 have hO : Kd.R k84 84 w2 w0.heap.size (fun k => k ≠ W.heap.size + 1 ∧ some k ≠ v1.ownBlock) ov out := Kd.R_after h.O hgr hat
 refine ⟨blk_far (blk_grown h.rd hgr (Kd.R_ne h.R h.rd (by decide))) (by simp; omega) _, h.lc, h.C, Kd.R_far hO (fun _ hk => hk.1) _, blk_far (blk_grown h.b3 hgr n3) (by simp) _, blk_put (cs := #[.int .i64 left.f0, .string left.f1, .int .i64 left.f2, rv]) b5' 3 _ rfl, Kd.R_set ho b5' (by decide) 3 _, ?_, ?_, ?_⟩
 ·exact (h.B.grown hgr (by omega) (fun k hk => Nat.le_trans hw (hbase k hk))).setCell (Nat.le_succ_of_le hw) _
 ·intro k hk hne
  rw [Below.heap_setCell _ _ _ _ (by simp; omega)]
  refine (hgr.block k (by omega) (fun he => ?_)).trans (h.kept k hk hne)
  have := hbase k he.symm
  omega
 ·have := hgr.size
  simp [World.setCell]
  omega
end
end Go.Proofs.Ytfjfbapiheehaaa.P
end
section
set_option linter.unusedVariables false
set_option linter.unusedSimpArgs false
namespace Go.Proofs.Ytfjfbapiheehaaa.P
open Go.RowKit Go.Proofs.YtfjfbapiheehaaaW.PrintWords Go.Proofs.YtfjfbapiheehaaaW.PrintLast Go.Proofs.YtfjfbapiheehaaaW.PrintMore Go.Proofs.Ytfjfbapiheehaaa.Base
theorem AltAt.ends {w0 W : World} {g : Nat} {e : Int} {out : List S84} {left : Tok} {l r : List Tok} {A : Option Addr} {c : Nat} {ov rv : Value} {w1 w2 : World} {x : S84} {v1 : Value} (hg : g < W.heap.size) (hg0 : w0.heap.size ≤ g) (h : AltAt w0 W g e out left l r A c ov rv w1)
  (ho : Kd.R k84 84 w2 w0.heap.size (fun _ => True) v1 (out ++ [x])) (hgr : w1.grownBy w2 ov.ownBlock) : Reader w0 (w2.setCell ⟨g, 2, none⟩ v1) g l e (out ++ [x]) ∧ Kept W (w2.setCell ⟨g, 2, none⟩ v1) g := by
 have hbase := Kd.R_base h.O
 have hs := h.size
 have rd' := blk_grown h.rd hgr (Kd.R_ne h.O h.rd (by decide))
 refine ⟨⟨A, c, v1, blk_put (cs := #[.slice A l.length c, .int .i64 e, ov]) rd' 2 _ rfl, h.lc, h.C, Kd.R_set ho rd' (by decide) 2 _, (h.B.grown hgr (by omega) hbase).setCell hg0 _, hg0⟩, ?_, ?_⟩
 ·have := hgr.size
  simp only [World.setCell, Array.size_modify]
  omega
 ·intro k cells t hk hne ht
  have hlt : k < W.heap.size := by
   rcases Nat.lt_or_ge k W.heap.size with hh | hh
   ·exact hh
   ·rw [Array.getElem?_eq_none hh] at hk; cases hk
  have hk1 := h.kept k hlt hne
  rw [Below.heap_setCell _ _ _ _ hne]
  refine (hgr.block k (by omega) (fun he => ?_)).trans hk1
  exact Kd.R_ne h.O (hk1.trans hk) (fun he => ht he.symm) he
set_option maxRecDepth 20000 in
set_option maxHeartbeats 6400000 in
theorem alt_any (w0 W : World) (g : Nat) (l : List Tok) (e : Int) (out : List S84) (left : Tok) (hR : Reader w0 W g l e out) (hl : l.length ≤ 1000000000) (o : Except (Int × Int) (List Tok × Tok × List Tok)) (ho : altGo left e out.length l [] = o) :
  Calls Try.prog 91 #[.pointer (some ⟨g, 0, none⟩), .agg #[.int .i64 left.f0, .string left.f1, .int .i64 left.f2]] W (AltEnd w0 W g left e out o) := by
 obtain ⟨A, c, ov, BK, hlc, hC, hO, hB, hg⟩ := hR
 have HO := Aside0.mk ho
 have ll := blk_lt BK
 clear ho
 go_enter Try.func91, Try.ntmps91
 go_wp2
 have hne : g ≠ W.heap.size := by omega
 have hne5 : g ≠ W.heap.size + 1 := by omega
 go_loopw [6] (fun v6 w' => ∃ (l' r : List Tok) (A : Option Addr) (c : Nat) (ov rv : Value), Aside0 (AltAt w0 W g e out left l' r A c ov rv w') ∧ Aside0 (altGo left e out.length l' r = o) ∧ Aside0 (l'.length + r.length ≤ 1000000000) ∧ v6 = v6) (fun _ w' => lenAt g w')
 case atStart =>
  refine ⟨l, [], A, c, ov, .slice none 0 0, ⟨⟨?_, hlc, hC, ?_, ?_, ?_, Kd.R_nil _ _ _ _ _, ?_, ?_, ?_⟩⟩, ⟨HO.out⟩, ⟨by simpa using hl⟩, rfl⟩
  ·exact blk_alloc (blk_alloc BK _) _
  ·refine Kd.R_alloc (Kd.R_alloc ?_ _) _
   exact Kd.R_mono (Kd.R_bound hO) (fun k hk => ⟨by have := hk.2.2.1; omega, by simp [Value.ownBlock]⟩)
  ·exact blk_alloc (blk_new _ _) _
  ·have := blk_new (W.alloc (.cells #[.int .i64 left.f0, .string left.f1, .int .i64 left.f2] 82 (0, 0))) (.cells #[.int .i64 left.f0, .string left.f1, .int .i64 left.f2, .slice none 0 0] 84 (0, 0))
   rw [World.size_alloc] at this
   exact this
  ·exact below_alloc (below_alloc hB _) _
  ·intro k hk _
   exact (below_alloc (below_alloc (Below.refl W.heap.size W) _) _).block k hk
  ·simp
 case round =>
  obtain ⟨l', r, A', c', ov', rv, HA, HG, HL, _⟩ := hrel
  cases l' with
  | nil =>
   have ho := HG.out
   simp only [altGo] at ho
   subst ho
   have HB2 := Aside0.mk HA.out.B
   go_wp2_with (first | (go_at_call 90; refine (next_end _ g A' c' e ov' (some ⟨wr.heap.size, 0, none⟩) 4 4 (blk_alloc HA.out.rd _)).mono ?_; rintro e' w3 ⟨rfl, hb3⟩))
   exact ⟨rfl, rfl, below_step (below_alloc HA.out.B _) hb3, HA.out.kept' (below_step (below_alloc (Below.refl _ _) _) hb3)⟩
  | cons t l' =>
   by_cases h12 : t.f0 = 1 ∨ t.f0 = 2
   ·obtain ⟨tk, ts, ta⟩ := t
    have h12' : tk = 1 ∨ tk = 2 := h12
    have ho := HG.out
    simp only [altGo, if_pos h12] at ho
    have HG2 := Aside0.mk ho
    have hll := HL.out
    simp only [List.length_cons] at hll
    have HLL := Aside0.mk hll
    have HLT := Aside0.mk (lenAt_of HA.out.rd)
    clear ho HG h12 hll HL
    rcases h12' with rfl | rfl
    ·have hmem : ((⟨1, ts, ta⟩ : Tok)).f0 ∈ ([1, 2, 4, 5] : List Int) := by simp
     go_wp2_with (first
      | (go_at_call 90; refine (next_ok _ g A' c' e ov' (⟨1, ts, ta⟩ : Tok) l' (some ⟨wr.heap.size, 0, none⟩) 4 [1, 2, 4, 5] (blk_alloc HA.out.rd _) (Kd.C_below HA.out.C (below_alloc HA.out.B _)) HA.out.lc (C_lit wr _ [1, 2, 4, 5] (by decide)) (by decide) (by decide) hmem).mono ?_; rintro e' w3 ⟨rfl, hb3⟩; have HN := Aside0.mk (AltAt.next ll hg (HA.out.alloc _) hb3); clear hb3; have x0 : w3.cell? ⟨W.heap.size + 1, 3, none⟩ = some rv := (blk_cell HN.out.b5 3).trans rfl; have x1 := blk_frozen HN.out.b5 3; have x2 := blk_lt HN.out.b5)
      | ((with_reducible refine gate_builtin (b := .append) (xs := #[.tmp 21, .tmp 23]) rfl ?_); go_loud (at_builtin; (refine Kd.R_append k82 (w0 := w3.alloc (.cells #[.int .i64 1, .string ts, .int .i64 ta] 82 (0, 0))) W.heap.size rfl (.tmp 21) (.tmp 23) 74 82 (.agg #[(.int .i64 0), (.string ⟨#[]⟩), (.int .i64 0)]) 32 rfl Try.underlying74 info82 rfl (by decide) (by omega) rv r (⟨1, ts, ta⟩ : Tok) [.int .i64 1, .string ts, .int .i64 ta] (fun k => k ≠ W.heap.size) (fun _ => False) rfl ?aX ?aP (fun _ hk => hk.elim) ?aF ?aO ?aB ?aS ?aL ?_); (case aX => simp [Act.eval]); (case aP => exact k82_mkM _ _ _ (⟨1, ts, ta⟩ : Tok)); (case aF => intro k hk; have := HN.out.size; simp at hk; omega); (case aO => exact (HN.out.alloc _).R); (case aB => exact Below.refl _ _); (case aS => have := HN.out.size; simp; omega); (case aL => have := HLL.out; omega); intro v1 w5 ho hb hg5 hat; (obtain ⟨VA, VC, hv1⟩ := Kd.R_slice ho); subst hv1; have HM := Aside0.mk (AltAt.more ll (Nat.le_trans hg (Nat.le_of_lt ll)) (HN.out.alloc _) ho hg5 hat); clear ho hb hat; have HNA := HN.out.alloc (.cells #[.int .i64 1, .string ts, .int .i64 ta] 82 (0, 0)); have B5 := blk_grown HNA.b5 hg5 (Kd.R_ne HNA.R HNA.b5 (by decide)); have y1 := blk_frozen B5 3; have y0 : w5.cell? ⟨W.heap.size + 1, 3, none⟩ = some rv := (blk_cell B5 3).trans rfl; have y2 := blk_lt B5; clear B5 HNA; clear hg5)))
     rw [List.length_append] at HM
     refine ⟨⟨l', r ++ [⟨1, ts, ta⟩], _, _, _, _, HM, HG2, ⟨?_⟩, trivial⟩, ?_⟩
     ·have := HLL.out
      simp only [List.length_append, List.length_cons, List.length_nil]
      omega
     ·have hm := HM.out
      simp only [List.length_cons, List.length_nil] at hm
      rw [HLT.out, lenAt_of hm.rd, List.length_cons]
      omega
    ·have hmem : ((⟨2, ts, ta⟩ : Tok)).f0 ∈ ([1, 2, 4, 5] : List Int) := by simp
     go_wp2_with (first
      | (go_at_call 90; refine (next_ok _ g A' c' e ov' (⟨2, ts, ta⟩ : Tok) l' (some ⟨wr.heap.size, 0, none⟩) 4 [1, 2, 4, 5] (blk_alloc HA.out.rd _) (Kd.C_below HA.out.C (below_alloc HA.out.B _)) HA.out.lc (C_lit wr _ [1, 2, 4, 5] (by decide)) (by decide) (by decide) hmem).mono ?_; rintro e' w3 ⟨rfl, hb3⟩; have HN := Aside0.mk (AltAt.next ll hg (HA.out.alloc _) hb3); clear hb3; have x0 : w3.cell? ⟨W.heap.size + 1, 3, none⟩ = some rv := (blk_cell HN.out.b5 3).trans rfl; have x1 := blk_frozen HN.out.b5 3; have x2 := blk_lt HN.out.b5)
      | ((with_reducible refine gate_builtin (b := .append) (xs := #[.tmp 21, .tmp 23]) rfl ?_); go_loud (at_builtin; (refine Kd.R_append k82 (w0 := w3.alloc (.cells #[.int .i64 2, .string ts, .int .i64 ta] 82 (0, 0))) W.heap.size rfl (.tmp 21) (.tmp 23) 74 82 (.agg #[(.int .i64 0), (.string ⟨#[]⟩), (.int .i64 0)]) 32 rfl Try.underlying74 info82 rfl (by decide) (by omega) rv r (⟨2, ts, ta⟩ : Tok) [.int .i64 2, .string ts, .int .i64 ta] (fun k => k ≠ W.heap.size) (fun _ => False) rfl ?aX ?aP (fun _ hk => hk.elim) ?aF ?aO ?aB ?aS ?aL ?_); (case aX => simp [Act.eval]); (case aP => exact k82_mkM _ _ _ (⟨2, ts, ta⟩ : Tok)); (case aF => intro k hk; have := HN.out.size; simp at hk; omega); (case aO => exact (HN.out.alloc _).R); (case aB => exact Below.refl _ _); (case aS => have := HN.out.size; simp; omega); (case aL => have := HLL.out; omega); intro v1 w5 ho hb hg5 hat; (obtain ⟨VA, VC, hv1⟩ := Kd.R_slice ho); subst hv1; have HM := Aside0.mk (AltAt.more ll (Nat.le_trans hg (Nat.le_of_lt ll)) (HN.out.alloc _) ho hg5 hat); clear ho hb hat; have HNA := HN.out.alloc (.cells #[.int .i64 2, .string ts, .int .i64 ta] 82 (0, 0)); have B5 := blk_grown HNA.b5 hg5 (Kd.R_ne HNA.R HNA.b5 (by decide)); have y1 := blk_frozen B5 3; have y0 : w5.cell? ⟨W.heap.size + 1, 3, none⟩ = some rv := (blk_cell B5 3).trans rfl; have y2 := blk_lt B5; clear B5 HNA; clear hg5)))
     rw [List.length_append] at HM
     refine ⟨⟨l', r ++ [⟨2, ts, ta⟩], _, _, _, _, HM, HG2, ⟨?_⟩, trivial⟩, ?_⟩
     ·have := HLL.out
      simp only [List.length_append, List.length_cons, List.length_nil]
      omega
     ·have hm := HM.out
      simp only [List.length_cons, List.length_nil] at hm
      rw [HLT.out, lenAt_of hm.rd, List.length_cons]
      omega
   ·by_cases h45 : t.f0 = 4 ∨ t.f0 = 5
    ·obtain ⟨tk, ts, ta⟩ := t
     have h45' : tk = 4 ∨ tk = 5 := h45
     have ho := HG.out
     simp only [altGo, if_neg h12, if_pos h45] at ho
     have HG2 := Aside0.mk ho
     obtain ⟨RA, RC, hrv⟩ := Kd.R_slice HA.out.R
     obtain ⟨OA, OC, hov⟩ := Kd.R_slice HA.out.O
     subst hrv; subst hov
     clear ho HG h12 HL h45
     rcases h45' with rfl | rfl
     ·have hmem : ((⟨4, ts, ta⟩ : Tok)).f0 ∈ ([1, 2, 4, 5] : List Int) := by simp
      go_wp2_with (first
       | (go_at_call 90; refine (next_ok _ g A' c' e _ (⟨4, ts, ta⟩ : Tok) l' (some ⟨wr.heap.size, 0, none⟩) 4 [1, 2, 4, 5] (blk_alloc HA.out.rd _) (Kd.C_below HA.out.C (below_alloc HA.out.B _)) HA.out.lc (C_lit wr _ [1, 2, 4, 5] (by decide)) (by decide) (by decide) hmem).mono ?_; rintro e' w3 ⟨rfl, hb3⟩; have HN := Aside0.mk (AltAt.next ll hg (HA.out.alloc _) hb3); clear hb3; have x0 : w3.cell? ⟨W.heap.size + 1, 3, none⟩ = some (.slice RA r.length RC) := (blk_cell HN.out.b5 3).trans rfl; have x1 := blk_frozen HN.out.b5 3; have x2 := blk_lt HN.out.b5; have x3 : w3.cell? ⟨g, 2, none⟩ = some (.slice OA out.length OC) := (blk_cell HN.out.rd 2).trans rfl; have x4 : w3.cell? ⟨W.heap.size, 2, none⟩ = some (.int .i64 left.f2) := (blk_cell HN.out.b3 2).trans rfl; have x6 := Nat.lt_of_succ_lt x2; have x5 := Nat.lt_trans ll x6))
      ·have hc : 60 ≤ out.length ∨ 8 < r.length := by omega
       have ho := HG2.out
       rw [if_pos hc] at ho
       subst ho
       exact ⟨rfl, rfl, (HN.out.alloc _).B, (HN.out.alloc _).kept' (Below.refl _ _)⟩
      ·have hc : ¬ (60 ≤ out.length ∨ 8 < r.length) := by omega
       have ho := HG2.out
       rw [if_neg hc] at ho
       have HN2 := Aside0.mk (HN.out.alloc (.cells #[.int .i64 4, .string ts, .int .i64 ta] 82 (0, 0)))
       have HT := Aside0.mk (blk_new w3 (.cells #[.int .i64 4, .string ts, .int .i64 ta] 82 (0, 0)))
       refine start_ (n := 11) (S := fun w' : World => w'.heap[g]? = some (.cells #[.slice (if c' = 1 then A' else Option.map (fun x => x.add 3) A') l'.length (c' - 1), .int .i64 e, .slice OA out.length OC] 106 (0, 0)) ∧ w'.heap[W.heap.size + 1]? = some (.cells #[.int .i64 left.f0, .string left.f1, .int .i64 left.f2, .slice RA r.length RC] 84 (0, 0))) (ds := [10]) #[false, false, false, false, false, false, false, false, false, false, false] (by kernel_rfl) rfl rfl ⟨blk_drew HN2.out.rd, blk_drew HN2.out.b5⟩ (fun hHeld => ?_)
       have HN3 := Aside0.mk (HN2.out.below (below_drew1 (Below.refl _ _)))
       have HT3 := Aside0.mk (blk_drew HT.out)
       have x7 : w3.heap.size < (World.drew (w3.alloc (.cells #[.int .i64 4, .string ts, .int .i64 ta] 82 (0, 0)))).heap.size := by simp
       generalize (World.drew _) = w5 at hHeld HN3 HT3 x7 ⊢
       clear HN2 HT x0 x1 x3 x4 HN HA
       refine pure_ (i := 0) (N := some 42) (v := ?_) (a' := ?_) #[true, false, false, false, false, false, false, false, false, false, false] rfl rfl (by kernel_rfl) (fun _ _ _ h => h) (Or.inl ⟨by rfl, ?_⟩) ?_ ?_
       rotate_left
       ·intro w'
        first | (go_simp; done) | (go_simp; with_reducible rfl)
       rotate_left
       ·simp only [Act.put, List.setIfInBounds_toArray, List.set_cons_zero, List.set_cons_succ]
        rfl
       refine pure_ (i := 1) (N := some 43) (v := ?_) (a' := ?_) #[true, true, false, false, false, false, false, false, false, false, false] rfl rfl (by kernel_rfl) (fun _ _ _ h => h) (Or.inl ⟨by rfl, ?_⟩) ?_ ?_
       rotate_left
       ·intro w'
        first | (go_simp; done) | (go_simp; with_reducible rfl)
       rotate_left
       ·simp only [Act.put, List.setIfInBounds_toArray, List.set_cons_zero, List.set_cons_succ]
        rfl
       refine pure_ (i := 2) (N := some 44) (v := ?_) (a' := ?_) #[true, true, true, false, false, false, false, false, false, false, false] rfl rfl (by kernel_rfl) (fun _ _ _ h => h) (Or.inl ⟨by rfl, ?_⟩) ?_ ?_
       rotate_left
       ·intro w'
        first | (go_simp; done) | (go_simp; with_reducible rfl)
       rotate_left
       ·simp only [Act.put, List.setIfInBounds_toArray, List.set_cons_zero, List.set_cons_succ]
        rfl
       refine pure_ (i := 3) (N := some 45) (v := ?_) (a' := ?_) #[true, true, true, true, false, false, false, false, false, false, false] rfl rfl (by kernel_rfl) (fun _ _ _ h => h) (Or.inl ⟨by rfl, ?_⟩) ?_ ?_
       rotate_left
       ·intro w'
        first | (go_simp; done) | (go_simp; with_reducible rfl)
       rotate_left
       ·simp only [Act.put, List.setIfInBounds_toArray, List.set_cons_zero, List.set_cons_succ]
        rfl
       refine take_ (i := 4) (N := some 46) (v := ?_) (a' := ?_) #[true, true, true, true, true, false, false, false, false, false, false] rfl rfl (by kernel_rfl) (fun _ _ _ h => h) (Or.inl ⟨by rfl, ?_⟩) hHeld ?_ ?_
       rotate_left
       ·rintro w' ⟨s0, s1⟩
        have e0 : w'.cell? ⟨g, 2, none⟩ = some (.slice OA out.length OC) := (blk_cell s0 2).trans rfl
        first | (go_simp; done) | (go_simp; with_reducible rfl)
       rotate_left
       ·simp only [Act.put, List.setIfInBounds_toArray, List.set_cons_zero, List.set_cons_succ]
        rfl
       refine take_ (i := 5) (N := some 47) (v := ?_) (a' := ?_) #[true, true, true, true, true, true, false, false, false, false, false] rfl rfl (by kernel_rfl) (fun _ _ _ h => h) (Or.inl ⟨by rfl, ?_⟩) hHeld ?_ ?_
       rotate_left
       ·rintro w' ⟨s0, s1⟩
        have e0 : w'.cell? ⟨W.heap.size + 1, 0, none⟩ = some (.int .i64 left.f0) := (blk_cell s1 0).trans rfl
        have e1 : w'.cell? ⟨W.heap.size + 1, 1, none⟩ = some (.string left.f1) := (blk_cell s1 1).trans rfl
        have e2 : w'.cell? ⟨W.heap.size + 1, 2, none⟩ = some (.int .i64 left.f2) := (blk_cell s1 2).trans rfl
        have e3 : w'.cell? ⟨W.heap.size + 1, 3, none⟩ = some (.slice RA r.length RC) := (blk_cell s1 3).trans rfl
        first | (go_simp; done) | (go_simp; with_reducible rfl)
       rotate_left
       ·simp only [Act.put, List.setIfInBounds_toArray, List.set_cons_zero, List.set_cons_succ]
        rfl
       refine one_ (i := 6) (N := some 48) #[true, true, true, true, true, true, true, false, false, false, false] rfl rfl (by kernel_rfl) (by decide) (fun K hK => ?_)
       refine event_step (v := .slice (some ⟨w5.heap.size, 0, none⟩) 1 1) (w1 := w5.alloc (.cells [.int .i64 left.f0, .string left.f1, .int .i64 left.f2, .slice RA r.length RC].toArray 84)) (by rfl) ?hr ?_
       case hr => first | (go_simp; done) | (go_simp; rfl)
       refine hK.out _ _ ⟨blk_alloc hHeld.1 _, blk_alloc hHeld.2 _⟩ (fun hHeld2 => ?_)
       clear hK K
       refine one_ (i := 7) (N := some 49) #[true, true, true, true, true, true, true, true, false, false, false] rfl rfl (by kernel_rfl) (by decide) (fun K hK => ?_)
       refine Kd.R_append_step k84 (w0 := w5) w0.heap.size (by rfl) (.tmp 46) (.tmp 48) 78 84 _ 56 rfl Try.underlying78 info84 rfl (by decide) (by omega) (.slice OA out.length OC) out (⟨left, r⟩ : S84) [.int .i64 left.f0, .string left.f1, .int .i64 left.f2, .slice RA r.length RC] (fun _ => True) (fun k => some k ≠ (Value.slice OA out.length OC).ownBlock) rfl ?aX ?aP (fun _ hk => ⟨trivial, hk⟩) (fun _ _ => trivial) ?aO (Below.refl _ _) ?aS ?aL ?_
       case aX => simp [Act.eval, Act.put]
       case aP => exact k84_mkM _ _ _ (⟨left, r⟩ : S84) (Kd.R_lower (Kd.R_reok rfl HN3.out.R (fun k hk he => (HN3.out.O.1 k he.symm).2 hk.symm)) (Nat.le_trans hg (Nat.le_of_lt ll)))
       case aO => exact Kd.R_mono HN3.out.O (fun _ _ => trivial)
       case aS => have := HN3.out.size; omega
       case aL => omega
       intro v1 w6 ho6 hb6 hg6 hat6
       refine hK.out _ _ ⟨blk_grown hHeld.1 hg6 (Kd.R_ne HN3.out.O HN3.out.rd (by decide)), blk_grown hHeld.2 hg6 (Kd.R_away HN3.out.O (fun _ hk => hk.1))⟩ (fun hHeld3 => ?_)
       clear hK K
       refine pure_ (i := 8) (N := some 50) (v := ?_) (a' := ?_) #[true, true, true, true, true, true, true, true, true, false, false] rfl rfl (by kernel_rfl) (fun _ _ _ h => h) (Or.inl ⟨by rfl, ?_⟩) ?_ ?_
       rotate_left
       ·intro w'
        first | (go_simp; done) | (go_simp; with_reducible rfl)
       rotate_left
       ·simp only [Act.put, List.setIfInBounds_toArray, List.set_cons_zero, List.set_cons_succ]
        rfl
       refine pure_ (i := 9) (N := some 51) (v := ?_) (a' := ?_) #[true, true, true, true, true, true, true, true, true, true, false] rfl rfl (by kernel_rfl) (fun _ _ _ h => h) (Or.inl ⟨by rfl, ?_⟩) ?_ ?_
       rotate_left
       ·intro w'
        first | (go_simp; done) | (go_simp; with_reducible rfl)
       rotate_left
       ·simp only [Act.put, List.setIfInBounds_toArray, List.set_cons_zero, List.set_cons_succ]
        rfl
       obtain ⟨V6, C6, hv6⟩ := Kd.R_slice ho6
       subst hv6
       refine last_ (i := 10) (N := none) #[true, true, true, true, true, true, true, true, true, true, true] rfl rfl (by kernel_rfl) (by decide) (fun K hK => ?_)
       have e0 : w6.cell? ⟨g, 2, none⟩ = some (.slice OA out.length OC) := (blk_cell hHeld3.1 2).trans rfl
       have e1 := blk_frozen hHeld3.1 2
       refine skip_ (w1 := w6.setCell ⟨g, 2, none⟩ (.slice V6 (out ++ [(⟨left, r⟩ : S84)]).length C6)) (by rfl) rfl ?_ ?_
       ·first | (go_simp; done) | (go_simp; rfl)
       refine hK.out _ _ ?_
       clear hK K e0 e1
       refine done_ (by kernel_rfl) ?_
       have HE := Aside0.mk (AltAt.ends ll hg HN3.out ho6 hg6)
       have HT6 := Aside0.mk (blk_far (blk_grown HT3.out hg6 (Kd.R_ne HN3.out.O HT3.out (by decide))) (g := w3.heap.size) (p := ⟨g, 2, none⟩) (fun hh => by have := congrArg id hh; simp at this; omega) (Value.slice V6 (out ++ [(⟨left, r⟩ : S84)]).length C6))
       generalize (World.setCell w6 _ _) = w7 at HE HT6 ⊢
       have z0 : w7.cell? ⟨w3.heap.size, 0, none⟩ = some (.int .i64 4) := (blk_cell HT6.out 0).trans rfl
       go_wp2
       subst ho
       exact bodyPost_ret (results_tmp rfl _ _ _) rfl ⟨rfl, HE.out.1, HE.out.2⟩
      ·have hc : 60 ≤ out.length ∨ 8 < r.length := by omega
       have ho := HG2.out
       rw [if_pos hc] at ho
       subst ho
       exact ⟨rfl, rfl, (HN.out.alloc _).B, (HN.out.alloc _).kept' (Below.refl _ _)⟩
     ·have hmem : ((⟨5, ts, ta⟩ : Tok)).f0 ∈ ([1, 2, 4, 5] : List Int) := by simp
      go_wp2_with (first
       | (go_at_call 90; refine (next_ok _ g A' c' e _ (⟨5, ts, ta⟩ : Tok) l' (some ⟨wr.heap.size, 0, none⟩) 4 [1, 2, 4, 5] (blk_alloc HA.out.rd _) (Kd.C_below HA.out.C (below_alloc HA.out.B _)) HA.out.lc (C_lit wr _ [1, 2, 4, 5] (by decide)) (by decide) (by decide) hmem).mono ?_; rintro e' w3 ⟨rfl, hb3⟩; have HN := Aside0.mk (AltAt.next ll hg (HA.out.alloc _) hb3); clear hb3; have x0 : w3.cell? ⟨W.heap.size + 1, 3, none⟩ = some (.slice RA r.length RC) := (blk_cell HN.out.b5 3).trans rfl; have x1 := blk_frozen HN.out.b5 3; have x2 := blk_lt HN.out.b5; have x3 : w3.cell? ⟨g, 2, none⟩ = some (.slice OA out.length OC) := (blk_cell HN.out.rd 2).trans rfl; have x4 : w3.cell? ⟨W.heap.size, 2, none⟩ = some (.int .i64 left.f2) := (blk_cell HN.out.b3 2).trans rfl; have x6 := Nat.lt_of_succ_lt x2; have x5 := Nat.lt_trans ll x6))
      ·have hc : 60 ≤ out.length ∨ 8 < r.length := by omega
       have ho := HG2.out
       rw [if_pos hc] at ho
       subst ho
       exact ⟨rfl, rfl, (HN.out.alloc _).B, (HN.out.alloc _).kept' (Below.refl _ _)⟩
      ·have hc : ¬ (60 ≤ out.length ∨ 8 < r.length) := by omega
       have ho := HG2.out
       rw [if_neg hc] at ho
       have HN2 := Aside0.mk (HN.out.alloc (.cells #[.int .i64 5, .string ts, .int .i64 ta] 82 (0, 0)))
       have HT := Aside0.mk (blk_new w3 (.cells #[.int .i64 5, .string ts, .int .i64 ta] 82 (0, 0)))
       refine start_ (n := 11) (S := fun w' : World => w'.heap[g]? = some (.cells #[.slice (if c' = 1 then A' else Option.map (fun x => x.add 3) A') l'.length (c' - 1), .int .i64 e, .slice OA out.length OC] 106 (0, 0)) ∧ w'.heap[W.heap.size + 1]? = some (.cells #[.int .i64 left.f0, .string left.f1, .int .i64 left.f2, .slice RA r.length RC] 84 (0, 0))) (ds := [10]) #[false, false, false, false, false, false, false, false, false, false, false] (by kernel_rfl) rfl rfl ⟨blk_drew HN2.out.rd, blk_drew HN2.out.b5⟩ (fun hHeld => ?_)
       have HN3 := Aside0.mk (HN2.out.below (below_drew1 (Below.refl _ _)))
       have HT3 := Aside0.mk (blk_drew HT.out)
       have x7 : w3.heap.size < (World.drew (w3.alloc (.cells #[.int .i64 5, .string ts, .int .i64 ta] 82 (0, 0)))).heap.size := by simp
       generalize (World.drew _) = w5 at hHeld HN3 HT3 x7 ⊢
       clear HN2 HT x0 x1 x3 x4 HN HA
       refine pure_ (i := 0) (N := some 42) (v := ?_) (a' := ?_) #[true, false, false, false, false, false, false, false, false, false, false] rfl rfl (by kernel_rfl) (fun _ _ _ h => h) (Or.inl ⟨by rfl, ?_⟩) ?_ ?_
       rotate_left
       ·intro w'
        first | (go_simp; done) | (go_simp; with_reducible rfl)
       rotate_left
       ·simp only [Act.put, List.setIfInBounds_toArray, List.set_cons_zero, List.set_cons_succ]
        rfl
       refine pure_ (i := 1) (N := some 43) (v := ?_) (a' := ?_) #[true, true, false, false, false, false, false, false, false, false, false] rfl rfl (by kernel_rfl) (fun _ _ _ h => h) (Or.inl ⟨by rfl, ?_⟩) ?_ ?_
       rotate_left
       ·intro w'
        first | (go_simp; done) | (go_simp; with_reducible rfl)
       rotate_left
       ·simp only [Act.put, List.setIfInBounds_toArray, List.set_cons_zero, List.set_cons_succ]
        rfl
       refine pure_ (i := 2) (N := some 44) (v := ?_) (a' := ?_) #[true, true, true, false, false, false, false, false, false, false, false] rfl rfl (by kernel_rfl) (fun _ _ _ h => h) (Or.inl ⟨by rfl, ?_⟩) ?_ ?_
       rotate_left
       ·intro w'
        first | (go_simp; done) | (go_simp; with_reducible rfl)
       rotate_left
       ·simp only [Act.put, List.setIfInBounds_toArray, List.set_cons_zero, List.set_cons_succ]
        rfl
       refine pure_ (i := 3) (N := some 45) (v := ?_) (a' := ?_) #[true, true, true, true, false, false, false, false, false, false, false] rfl rfl (by kernel_rfl) (fun _ _ _ h => h) (Or.inl ⟨by rfl, ?_⟩) ?_ ?_
       rotate_left
       ·intro w'
        first | (go_simp; done) | (go_simp; with_reducible rfl)
       rotate_left
       ·simp only [Act.put, List.setIfInBounds_toArray, List.set_cons_zero, List.set_cons_succ]
        rfl
       refine take_ (i := 4) (N := some 46) (v := ?_) (a' := ?_) #[true, true, true, true, true, false, false, false, false, false, false] rfl rfl (by kernel_rfl) (fun _ _ _ h => h) (Or.inl ⟨by rfl, ?_⟩) hHeld ?_ ?_
       rotate_left
       ·rintro w' ⟨s0, s1⟩
        have e0 : w'.cell? ⟨g, 2, none⟩ = some (.slice OA out.length OC) := (blk_cell s0 2).trans rfl
        first | (go_simp; done) | (go_simp; with_reducible rfl)
       rotate_left
       ·simp only [Act.put, List.setIfInBounds_toArray, List.set_cons_zero, List.set_cons_succ]
        rfl
       refine take_ (i := 5) (N := some 47) (v := ?_) (a' := ?_) #[true, true, true, true, true, true, false, false, false, false, false] rfl rfl (by kernel_rfl) (fun _ _ _ h => h) (Or.inl ⟨by rfl, ?_⟩) hHeld ?_ ?_
       rotate_left
       ·rintro w' ⟨s0, s1⟩
        have e0 : w'.cell? ⟨W.heap.size + 1, 0, none⟩ = some (.int .i64 left.f0) := (blk_cell s1 0).trans rfl
        have e1 : w'.cell? ⟨W.heap.size + 1, 1, none⟩ = some (.string left.f1) := (blk_cell s1 1).trans rfl
        have e2 : w'.cell? ⟨W.heap.size + 1, 2, none⟩ = some (.int .i64 left.f2) := (blk_cell s1 2).trans rfl
        have e3 : w'.cell? ⟨W.heap.size + 1, 3, none⟩ = some (.slice RA r.length RC) := (blk_cell s1 3).trans rfl
        first | (go_simp; done) | (go_simp; with_reducible rfl)
       rotate_left
       ·simp only [Act.put, List.setIfInBounds_toArray, List.set_cons_zero, List.set_cons_succ]
        rfl
       refine one_ (i := 6) (N := some 48) #[true, true, true, true, true, true, true, false, false, false, false] rfl rfl (by kernel_rfl) (by decide) (fun K hK => ?_)
       refine event_step (v := .slice (some ⟨w5.heap.size, 0, none⟩) 1 1) (w1 := w5.alloc (.cells [.int .i64 left.f0, .string left.f1, .int .i64 left.f2, .slice RA r.length RC].toArray 84)) (by rfl) ?hr ?_
       case hr => first | (go_simp; done) | (go_simp; rfl)
       refine hK.out _ _ ⟨blk_alloc hHeld.1 _, blk_alloc hHeld.2 _⟩ (fun hHeld2 => ?_)
       clear hK K
       refine one_ (i := 7) (N := some 49) #[true, true, true, true, true, true, true, true, false, false, false] rfl rfl (by kernel_rfl) (by decide) (fun K hK => ?_)
       refine Kd.R_append_step k84 (w0 := w5) w0.heap.size (by rfl) (.tmp 46) (.tmp 48) 78 84 _ 56 rfl Try.underlying78 info84 rfl (by decide) (by omega) (.slice OA out.length OC) out (⟨left, r⟩ : S84) [.int .i64 left.f0, .string left.f1, .int .i64 left.f2, .slice RA r.length RC] (fun _ => True) (fun k => some k ≠ (Value.slice OA out.length OC).ownBlock) rfl ?aX ?aP (fun _ hk => ⟨trivial, hk⟩) (fun _ _ => trivial) ?aO (Below.refl _ _) ?aS ?aL ?_
       case aX => simp [Act.eval, Act.put]
       case aP => exact k84_mkM _ _ _ (⟨left, r⟩ : S84) (Kd.R_lower (Kd.R_reok rfl HN3.out.R (fun k hk he => (HN3.out.O.1 k he.symm).2 hk.symm)) (Nat.le_trans hg (Nat.le_of_lt ll)))
       case aO => exact Kd.R_mono HN3.out.O (fun _ _ => trivial)
       case aS => have := HN3.out.size; omega
       case aL => omega
       intro v1 w6 ho6 hb6 hg6 hat6
       refine hK.out _ _ ⟨blk_grown hHeld.1 hg6 (Kd.R_ne HN3.out.O HN3.out.rd (by decide)), blk_grown hHeld.2 hg6 (Kd.R_away HN3.out.O (fun _ hk => hk.1))⟩ (fun hHeld3 => ?_)
       clear hK K
       refine pure_ (i := 8) (N := some 50) (v := ?_) (a' := ?_) #[true, true, true, true, true, true, true, true, true, false, false] rfl rfl (by kernel_rfl) (fun _ _ _ h => h) (Or.inl ⟨by rfl, ?_⟩) ?_ ?_
       rotate_left
       ·intro w'
        first | (go_simp; done) | (go_simp; with_reducible rfl)
       rotate_left
       ·simp only [Act.put, List.setIfInBounds_toArray, List.set_cons_zero, List.set_cons_succ]
        rfl
       refine pure_ (i := 9) (N := some 51) (v := ?_) (a' := ?_) #[true, true, true, true, true, true, true, true, true, true, false] rfl rfl (by kernel_rfl) (fun _ _ _ h => h) (Or.inl ⟨by rfl, ?_⟩) ?_ ?_
       rotate_left
       ·intro w'
        first | (go_simp; done) | (go_simp; with_reducible rfl)
       rotate_left
       ·simp only [Act.put, List.setIfInBounds_toArray, List.set_cons_zero, List.set_cons_succ]
        rfl
       obtain ⟨V6, C6, hv6⟩ := Kd.R_slice ho6
       subst hv6
       refine last_ (i := 10) (N := none) #[true, true, true, true, true, true, true, true, true, true, true] rfl rfl (by kernel_rfl) (by decide) (fun K hK => ?_)
       have e0 : w6.cell? ⟨g, 2, none⟩ = some (.slice OA out.length OC) := (blk_cell hHeld3.1 2).trans rfl
       have e1 := blk_frozen hHeld3.1 2
       refine skip_ (w1 := w6.setCell ⟨g, 2, none⟩ (.slice V6 (out ++ [(⟨left, r⟩ : S84)]).length C6)) (by rfl) rfl ?_ ?_
       ·first | (go_simp; done) | (go_simp; rfl)
       refine hK.out _ _ ?_
       clear hK K e0 e1
       refine done_ (by kernel_rfl) ?_
       have HE := Aside0.mk (AltAt.ends ll hg HN3.out ho6 hg6)
       have HT6 := Aside0.mk (blk_far (blk_grown HT3.out hg6 (Kd.R_ne HN3.out.O HT3.out (by decide))) (g := w3.heap.size) (p := ⟨g, 2, none⟩) (fun hh => by have := congrArg id hh; simp at this; omega) (Value.slice V6 (out ++ [(⟨left, r⟩ : S84)]).length C6))
       generalize (World.setCell w6 _ _) = w7 at HE HT6 ⊢
       have z0 : w7.cell? ⟨w3.heap.size, 0, none⟩ = some (.int .i64 5) := (blk_cell HT6.out 0).trans rfl
       go_wp2
       subst ho
       exact bodyPost_ret (results_tmp rfl _ _ _) rfl ⟨rfl, HE.out.1, HE.out.2⟩
      ·have hc : 60 ≤ out.length ∨ 8 < r.length := by omega
       have ho := HG2.out
       rw [if_pos hc] at ho
       subst ho
       exact ⟨rfl, rfl, (HN.out.alloc _).B, (HN.out.alloc _).kept' (Below.refl _ _)⟩
    ·have hmem : t.f0 ∉ ([1, 2, 4, 5] : List Int) := by simp; omega
     have ho := HG.out
     simp only [altGo, if_neg h12, if_neg h45] at ho
     subst ho
     go_wp2_with (first | (go_at_call 90; refine (next_bad _ g A' c' e ov' t l' (some ⟨wr.heap.size, 0, none⟩) 4 [1, 2, 4, 5] (blk_alloc HA.out.rd _) (Kd.C_below HA.out.C (below_alloc HA.out.B _)) (C_lit wr _ [1, 2, 4, 5] (by decide)) (by decide) (by decide) hmem).mono ?_; rintro e' w3 ⟨rfl, hb3⟩))
     exact ⟨rfl, rfl, below_step (below_alloc HA.out.B _) hb3, HA.out.kept' (below_step (below_alloc (Below.refl _ _) _) hb3)⟩
end Go.Proofs.Ytfjfbapiheehaaa.P
end
section
set_option linter.unusedVariables false
set_option linter.unusedSimpArgs false
namespace Go.Proofs.Ytfjfbapiheehaaa.P
open Go.RowKit Go.Proofs.YtfjfbapiheehaaaW.PrintWords Go.Proofs.YtfjfbapiheehaaaW.PrintLast Go.Proofs.YtfjfbapiheehaaaW.PrintMore Go.Proofs.Ytfjfbapiheehaaa.Base
def barsGo (x : Tok) (e : Int) : Nat → List Tok → List S84 → Except (Int × Int) (List S84 × List Tok)
 | 0, _, _ => .error (0, 0)
 | k + 1, l, out => match altGo x e out.length l [] with
  | .error p => .error p
  | .ok (r, t, l') => if t.f0 = 4 then barsGo x e k l' (out ++ [⟨x, r⟩]) else .ok (out ++ [⟨x, r⟩], l')
def defGo (e : Int) : List Tok → List S84 → Except (Int × Int) (List S84 × List Tok)
 | [], _ => .error (12, e)
 | t :: l, out => if t.f0 = 1 then
   (match l with
   | [] => .error (12, e)
   | u :: l => if u.f0 = 3 then barsGo t e (l.length + 1) l out else .error (12, u.f2))
  else .error (12, t.f2)
theorem altGo_less (x : Tok) (e : Int) (n : Nat) (l : List Tok) : ∀ r q, altGo x e n l r = .ok q → q.2.2.length < l.length := by
 induction l with
 | nil => intro r q h; simp [altGo] at h
 | cons t l ih =>
  intro r q h
  simp only [altGo] at h
  split at h
  ·have := ih _ _ h
   simp only [List.length_cons]
   omega
  ·split at h
   ·split at h
    ·cases h
    ·injection h with h
     subst h
     simp
   ·cases h
theorem Reader.below {w0 W W2 : World} {g : Nat} {l : List Tok} {e : Int} {out : List S84} (h : Reader w0 W g l e out) (hb : Below W.heap.size W W2) : Reader w0 W2 g l e out := by
 obtain ⟨A, c, ov, b, hc, hC, hO, hB, hg⟩ := h
 exact ⟨A, c, ov, blk_below b hb, hc, hC, Kd.R_below hO hb, below_step hB hb, hg⟩
theorem Reader.alloc {w0 W : World} {g : Nat} {l : List Tok} {e : Int} {out : List S84} (h : Reader w0 W g l e out) (o : Obj) : Reader w0 (W.alloc o) g l e out := h.below (below_alloc (Below.refl _ _) o)
theorem Reader.lt {w0 W : World} {g : Nat} {l : List Tok} {e : Int} {out : List S84} (h : Reader w0 W g l e out) : g < W.heap.size := by
 obtain ⟨A, c, ov, b, _⟩ := h
 exact blk_lt b
theorem Reader.base {w0 W : World} {g : Nat} {l : List Tok} {e : Int} {out : List S84} (h : Reader w0 W g l e out) : w0.heap.size ≤ g := by
 obtain ⟨A, c, ov, b, hc, hC, hO, hB, hg⟩ := h
 exact hg
theorem Reader.old {w0 W : World} {g : Nat} {l : List Tok} {e : Int} {out : List S84} (h : Reader w0 W g l e out) : Below w0.heap.size w0 W := by
 obtain ⟨A, c, ov, b, hc, hC, hO, hB, hg⟩ := h
 exact hB
theorem Kept.refl (W : World) (g : Nat) : Kept W W g := ⟨Nat.le_refl _, fun _ _ _ _ _ _ => rfl⟩
theorem Kept.below {W W1 W2 : World} {g : Nat} (h : Kept W W1 g) (hb : Below W1.heap.size W1 W2) : Kept W W2 g := by
 refine ⟨Nat.le_trans h.1 hb.size, fun k cells t hk hne ht => ?_⟩
 have h1 := h.2 k cells t hk hne ht
 exact (hb.block k (Nat.lt_of_lt_of_le (blk_lt hk) h.1)).trans h1
theorem Kept.trans {W W1 W2 : World} {g : Nat} (h : Kept W W1 g) (h2 : Kept W1 W2 g) : Kept W W2 g := by
 refine ⟨Nat.le_trans h.1 h2.1, fun k cells t hk hne ht => ?_⟩
 have h1 := h.2 k cells t hk hne ht
 exact (h2.2 k cells t (h1.trans hk) hne ht).trans h1
theorem Kept.at {W W1 : World} {g k : Nat} {cells : Array Value} {t : TypeId} (h : Kept W W1 g) (hk : W.heap[k]? = some (.cells cells t (0, 0))) (hne : k ≠ g) (ht : t ≠ 84) : W1.heap[k]? = some (.cells cells t (0, 0)) := (h.2 k cells t hk hne ht).trans hk
theorem Reader.next {w0 W w2 : World} {g : Nat} {t : Tok} {l : List Tok} {e : Int} {out : List S84} {A : Option Addr} {c : Nat} {ov : Value}
  (BK : W.heap[g]? = some (.cells #[.slice A (t :: l).length c, .int .i64 e, ov] 106 (0, 0))) (hlc : (t :: l).length ≤ c) (hC : Kd.C k82 w0 A (t :: l).length (t :: l)) (hO : Kd.R k84 84 W w0.heap.size (fun _ => True) ov out) (hB : Below w0.heap.size w0 W) (hg : w0.heap.size ≤ g)
  (hb : Below W.heap.size (W.setCell ⟨g, 0, none⟩ (.slice (if c = 1 then A else A.map (·.add 3)) l.length (c - 1))) w2) : Reader w0 w2 g l e out ∧ Kept W w2 g := by
 have hsz : (W.setCell ⟨g, 0, none⟩ (.slice (if c = 1 then A else A.map (·.add 3)) l.length (c - 1))).heap.size = W.heap.size := by simp [World.setCell]
 have h1 : Reader w0 (W.setCell ⟨g, 0, none⟩ (.slice (if c = 1 then A else A.map (·.add 3)) l.length (c - 1))) g l e out := by
  refine ⟨_, _, ov, blk_put (cs := #[.slice A (t :: l).length c, .int .i64 e, ov]) BK 0 _ rfl, ?_, Kd.C_drop (m := 1) hC (by simp) hlc, Kd.R_set hO BK (by decide) 0 _, below_set hB hg, hg⟩
  simp only [List.length_cons] at hlc
  omega
 refine ⟨h1.below (by rw [hsz]; exact hb), Kept.below (W1 := W.setCell ⟨g, 0, none⟩ (.slice (if c = 1 then A else A.map (·.add 3)) l.length (c - 1))) ⟨by rw [hsz]; exact Nat.le_refl _, fun k cells t hk hne _ => Below.heap_setCell _ _ _ _ hne⟩ (by rw [hsz]; exact hb)⟩
theorem next_in (w0 W : World) (g : Nat) (e : Int) (out : List S84) (t : Tok) (l : List Tok) (ks : List Int) (kt : TypeId) (hR : Reader w0 W g (t :: l) e out) (hk : ks.length ≤ 1000) (hyes : t.f0 ∈ ks) :
  Calls Try.prog 90 #[.pointer (some ⟨g, 0, none⟩), .slice (some ⟨W.heap.size, 0, none⟩) ks.length ks.length] (W.alloc (.cells (ks.map (Value.int .i64)).toArray kt (0, 0))) fun e' w' => e' = .returned (.agg #[.int .i64 t.f0, .string t.f1, .int .i64 t.f2]) ∧ Reader w0 w' g l e out ∧ Kept W w' g := by
 obtain ⟨A, c, ov, b, hc, hC, hO, hB, hg⟩ := hR.alloc (.cells (ks.map (Value.int .i64)).toArray kt (0, 0))
 refine (next_ok _ g A c e ov t l (some ⟨W.heap.size, 0, none⟩) ks.length ks b (Kd.C_below hC hB) hc (C_lit W kt ks hk) (Nat.le_refl _) hk hyes).mono ?_
 rintro e' w3 ⟨rfl, hb3⟩
 have := Reader.next b hc hC hO hB hg hb3
 exact ⟨rfl, this.1, Kept.trans (Kept.below (Kept.refl _ _) (below_alloc (Below.refl _ _) _)) this.2⟩
theorem next_not (w0 W : World) (g : Nat) (e : Int) (out : List S84) (l : List Tok) (ks : List Int) (kt : TypeId) (hR : Reader w0 W g l e out) (hk : ks.length ≤ 1000) (p : Int) (hno : (l = [] ∧ p = e) ∨ ∃ t l', l = t :: l' ∧ t.f0 ∉ ks ∧ p = t.f2) :
  Calls Try.prog 90 #[.pointer (some ⟨g, 0, none⟩), .slice (some ⟨W.heap.size, 0, none⟩) ks.length ks.length] (W.alloc (.cells (ks.map (Value.int .i64)).toArray kt (0, 0))) fun e' w' => e' = .panicked (thrown 12 p) ∧ Below w0.heap.size w0 w' ∧ Kept W w' g := by
 obtain ⟨A, c, ov, b, hc, hC, hO, hB, hg⟩ := hR.alloc (.cells (ks.map (Value.int .i64)).toArray kt (0, 0))
 rcases hno with ⟨rfl, rfl⟩ | ⟨t, l', rfl, hno, rfl⟩
 ·refine (next_end _ g A c p ov (some ⟨W.heap.size, 0, none⟩) ks.length ks.length b).mono ?_
  rintro e' w3 ⟨rfl, hb3⟩
  exact ⟨rfl, below_step hB hb3, Kept.below (Kept.below (Kept.refl _ _) (below_alloc (Below.refl _ _) _)) hb3⟩
 ·refine (next_bad _ g A c e ov t l' (some ⟨W.heap.size, 0, none⟩) ks.length ks b (Kd.C_below hC hB) (C_lit W kt ks hk) (Nat.le_refl _) hk hno).mono ?_
  rintro e' w3 ⟨rfl, hb3⟩
  exact ⟨rfl, below_step hB hb3, Kept.below (Kept.below (Kept.refl _ _) (below_alloc (Below.refl _ _) _)) hb3⟩
theorem Reader.len {w0 W : World} {g : Nat} {l : List Tok} {e : Int} {out : List S84} (h : Reader w0 W g l e out) : lenAt g W = l.length := by
 obtain ⟨A, c, ov, b, _⟩ := h
 exact lenAt_of b
def DefEnd (w0 W : World) (g : Nat) (e : Int) (o : Except (Int × Int) (List S84 × List Tok)) (e' : Ending) (W' : World) : Prop :=
 match o with
 | .ok (out', l') => e' = .returned (.tuple #[]) ∧ Reader w0 W' g l' e out' ∧ Kept W W' g
 | .error (c, p) => e' = .panicked (thrown c p) ∧ Below w0.heap.size w0 W' ∧ Kept W W' g
theorem next_in1 (w0 W : World) (g : Nat) (e : Int) (out : List S84) (t : Tok) (l : List Tok) (n : Int) (hR : Reader w0 W g (t :: l) e out) (hyes : t.f0 = n) :
  Calls Try.prog 90 #[.pointer (some ⟨g, 0, none⟩), .slice (some ⟨W.heap.size, 0, none⟩) 1 1] (W.alloc (.cells #[.int .i64 n] 3 (0, 0))) fun e' w' => e' = .returned (.agg #[.int .i64 t.f0, .string t.f1, .int .i64 t.f2]) ∧ Reader w0 w' g l e out ∧ Kept W w' g := next_in w0 W g e out t l [n] 3 hR (by simp) (by simp [hyes])
theorem next_not1 (w0 W : World) (g : Nat) (e : Int) (out : List S84) (l : List Tok) (n : Int) (hR : Reader w0 W g l e out) (p : Int) (hno : (l = [] ∧ p = e) ∨ ∃ t l', l = t :: l' ∧ t.f0 ≠ n ∧ p = t.f2) :
  Calls Try.prog 90 #[.pointer (some ⟨g, 0, none⟩), .slice (some ⟨W.heap.size, 0, none⟩) 1 1] (W.alloc (.cells #[.int .i64 n] 3 (0, 0))) fun e' w' => e' = .panicked (thrown 12 p) ∧ Below w0.heap.size w0 w' ∧ Kept W w' g :=
 next_not w0 W g e out l [n] 3 hR (by simp) p (hno.imp id (fun ⟨t, l', h1, h2, h3⟩ => ⟨t, l', h1, by simpa using h2, h3⟩))
set_option maxHeartbeats 400000 in
theorem def_not (w0 W : World) (g : Nat) (l : List Tok) (e : Int) (out : List S84) (hR : Reader w0 W g l e out) (p : Int) (hno : (l = [] ∧ p = e) ∨ ∃ t l', l = t :: l' ∧ t.f0 ≠ 1 ∧ p = t.f2) :
  Calls Try.prog 75 #[.pointer (some ⟨g, 0, none⟩)] W fun e' w' => e' = .panicked (thrown 12 p) ∧ Below w0.heap.size w0 w' ∧ Kept W w' g := by
 have HX := Aside0.mk (next_not1 w0 W g e out l 1 hR p hno)
 have ll := hR.lt
 clear hR hno
 go_enter Try.func75, Try.ntmps75
 go_wp2_with (first | (go_at_call 90; refine (HX.out).mono ?_; rintro e' w3 ⟨rfl, hb3⟩))
 exact ⟨rfl, rfl, hb3⟩
set_option maxHeartbeats 400000 in
theorem def_not2 (w0 W : World) (g : Nat) (t : Tok) (l : List Tok) (e : Int) (out : List S84) (hR : Reader w0 W g (t :: l) e out) (ht : t.f0 = 1) (p : Int) (hno : (l = [] ∧ p = e) ∨ ∃ t l', l = t :: l' ∧ t.f0 ≠ 3 ∧ p = t.f2) :
  Calls Try.prog 75 #[.pointer (some ⟨g, 0, none⟩)] W fun e' w' => e' = .panicked (thrown 12 p) ∧ Below w0.heap.size w0 w' ∧ Kept W w' g := by
 have HX := Aside0.mk (next_in1 w0 W g e out t l 1 hR ht)
 have HN := Aside0.mk hno
 have ll := hR.lt
 clear hR hno ht
 go_enter Try.func75, Try.ntmps75
 go_wp2_with (first
  | (go_at_call 90; with_reducible refine (HX.out).mono ?_; rintro e' w3 ⟨rfl, hR3, hK3⟩; have hy := next_not1 w0 (w3.alloc (.cells #[.int .i64 t.f0, .string t.f1, .int .i64 t.f2] 82 (0, 0))) g e out l 3 (Reader.alloc hR3 _) p HN.out; rw [World.size_alloc] at hy; have HY := Aside0.mk hy; clear hy; have HK3 := Aside0.mk (Kept.below hK3 (below_alloc (Below.refl _ _) (.cells #[.int .i64 t.f0, .string t.f1, .int .i64 t.f2] 82 (0, 0)))); clear hR3 hK3)
  | (go_at_call 90; with_reducible refine (HY.out).mono ?_; rintro e' w4 ⟨rfl, hb3⟩))
 exact ⟨rfl, rfl, hb3.1, Kept.trans HK3.out hb3.2⟩
set_option maxHeartbeats 3200000 in
theorem def_bars (w0 W : World) (g : Nat) (t u : Tok) (l : List Tok) (e : Int) (out : List S84) (hR : Reader w0 W g (t :: u :: l) e out) (ht : t.f0 = 1) (hu : u.f0 = 3) (hl : l.length ≤ 1000000000) (o : Except (Int × Int) (List S84 × List Tok)) (ho : barsGo t e (l.length + 1) l out = o) :
  Calls Try.prog 75 #[.pointer (some ⟨g, 0, none⟩)] W (DefEnd w0 W g e o) := by
 have HX := Aside0.mk (next_in1 w0 W g e out t (u :: l) 1 hR ht)
 have HO := Aside0.mk ho
 have HM2 := Aside0.mk hu
 have ll := hR.lt
 clear hR ho ht hu
 go_enter Try.func75, Try.ntmps75
 go_wp2_with (first
  | (go_at_call 90; with_reducible refine (HX.out).mono ?_; rintro e' w3 ⟨rfl, hR3, hK3⟩; have hy := next_in1 w0 (w3.alloc (.cells #[.int .i64 t.f0, .string t.f1, .int .i64 t.f2] 82 (0, 0))) g e out u l 3 (Reader.alloc hR3 _) HM2.out; rw [World.size_alloc] at hy; have HY := Aside0.mk hy; clear hy; have HK3 := Aside0.mk (Kept.below hK3 (below_alloc (Below.refl _ _) (.cells #[.int .i64 t.f0, .string t.f1, .int .i64 t.f2] 82 (0, 0)))); have HT3 := Aside0.mk (blk_new w3 (.cells #[.int .i64 t.f0, .string t.f1, .int .i64 t.f2] 82 (0, 0))); have l3 := hR3.lt; clear hR3 hK3)
  | (go_at_call 90; with_reducible refine (HY.out).mono ?_; rintro e' w4 ⟨rfl, hR4, hK4⟩; have HR4 := Aside0.mk hR4; have HK4 := Aside0.mk (Kept.trans HK3.out hK4); have HT4 := Aside0.mk (Kept.at hK4 HT3.out (Nat.ne_of_gt l3) (by decide)); clear hR4 hK4))
 go_loopw [9] (fun v9 w' => ∃ (l' : List Tok) (out' : List S84) (k : Nat), Aside0 (Reader w0 w' g l' e out') ∧ Aside0 (Kept W w' g) ∧ Aside0 (w'.heap[w3.heap.size]? = some (.cells #[.int .i64 t.f0, .string t.f1, .int .i64 t.f2] 82 (0, 0))) ∧ Aside0 (barsGo t e k l' out' = o) ∧ Aside0 (l'.length < k) ∧ Aside0 (l'.length ≤ 1000000000) ∧ v9 = v9) (fun _ w' => lenAt g w')
 case atStart => exact ⟨l, out, l.length + 1, HR4, HK4, HT4, HO, ⟨Nat.lt_succ_self _⟩, ⟨hl⟩, rfl⟩
 case round =>
  obtain ⟨l', out', k, HA, HKA, HTA, HG, HLK, HLL, _⟩ := hrel
  obtain ⟨k, rfl⟩ : ∃ m, k = m + 1 := ⟨k - 1, by have := HLK.out; omega⟩
  have c0 : wr.cell? ⟨w3.heap.size, 0, none⟩ = some (.int .i64 t.f0) := (blk_cell HTA.out 0).trans rfl
  have c1 : wr.cell? ⟨w3.heap.size, 1, none⟩ = some (.string t.f1) := (blk_cell HTA.out 1).trans rfl
  have c2 : wr.cell? ⟨w3.heap.size, 2, none⟩ = some (.int .i64 t.f2) := (blk_cell HTA.out 2).trans rfl
  have hg' := HG.out
  simp only [barsGo] at hg'
  have HALL := fun q hq => Aside0.mk (alt_any w0 wr g l' e out' t HA.out HLL.out q hq)
  cases hq : altGo t e out'.length l' [] with
  | error p =>
   obtain ⟨pc, pp⟩ := p
   rw [hq] at hg'
   simp only at hg'
   subst hg'
   have HALT := HALL _ hq
   clear HALL hq
   go_wp2_with (first | (go_at_call 91; refine (HALT.out).mono ?_; rintro e' w5 ⟨rfl, hb5⟩))
   exact ⟨rfl, rfl, hb5.1, Kept.trans HKA.out hb5.2⟩
  | ok q =>
   obtain ⟨r, z, l5⟩ := q
   have hless := altGo_less t e out'.length l' [] _ hq
   simp only at hless
   rw [hq] at hg'
   simp only at hg'
   have HALT := HALL _ hq
   have HG2 := Aside0.mk hg'
   have HLE := Aside0.mk (Reader.len HA.out)
   have HLS := Aside0.mk hless
   clear HALL hq hg' hless
   by_cases hz : z.f0 = 4
   ·have hd : decide (z.f0 = 4) = true := decide_eq_true hz
    go_wp2_with (first | (go_at_call 91; refine (HALT.out).mono ?_; simp only [AltEnd, hd]; rintro e' w5 ⟨rfl, hR5, hK5⟩; have HR5 := Aside0.mk hR5; have HK5 := Aside0.mk (Kept.trans HKA.out hK5); have HT5 := Aside0.mk (Kept.at hK5 HTA.out (by omega) (by decide)); clear hR5 hK5))
    have h4 := HG2.out
    rw [if_pos hz] at h4
    refine ⟨⟨l5, out' ++ [⟨t, r⟩], k, HR5, HK5, HT5, ⟨h4⟩, ⟨?_⟩, ⟨?_⟩, trivial⟩, ?_⟩
    ·have := HLK.out; have := HLS.out; omega
    ·have := HLL.out; have := HLS.out; omega
    ·rw [HLE.out, HR5.out.len]; exact HLS.out
   ·have hd : decide (z.f0 = 4) = false := decide_eq_false hz
    go_wp2_with (first | (go_at_call 91; refine (HALT.out).mono ?_; simp only [AltEnd, hd]; rintro e' w5 ⟨rfl, hR5, hK5⟩; have HR5 := Aside0.mk hR5; have HK5 := Aside0.mk (Kept.trans HKA.out hK5); clear hR5 hK5))
    have h4 := HG2.out
    rw [if_neg hz] at h4
    subst h4
    exact bodyPost_ret (results_none rfl _ _ _) rfl ⟨rfl, HR5.out, HK5.out⟩
theorem def_any (w0 W : World) (g : Nat) (l : List Tok) (e : Int) (out : List S84) (hR : Reader w0 W g l e out) (hl : l.length ≤ 1000000000) (o : Except (Int × Int) (List S84 × List Tok)) (ho : defGo e l out = o) :
  Calls Try.prog 75 #[.pointer (some ⟨g, 0, none⟩)] W (DefEnd w0 W g e o) := by
 subst ho
 cases l with
 | nil => exact def_not w0 W g [] e out hR e (Or.inl ⟨rfl, rfl⟩)
 | cons t l =>
  simp only [defGo]
  by_cases ht : t.f0 = 1
  ·rw [if_pos ht]
   cases l with
   | nil => exact def_not2 w0 W g t [] e out hR ht e (Or.inl ⟨rfl, rfl⟩)
   | cons u l =>
    simp only
    by_cases hu : u.f0 = 3
    ·rw [if_pos hu]
     exact def_bars w0 W g t u l e out hR ht hu (by simp only [List.length_cons] at hl; omega) _ rfl
    ·rw [if_neg hu]
     exact def_not2 w0 W g t (u :: l) e out hR ht u.f2 (Or.inr ⟨u, l, rfl, hu, rfl⟩)
  ·rw [if_neg ht]
   exact def_not w0 W g (t :: l) e out hR t.f2 (Or.inr ⟨t, l, rfl, ht, rfl⟩)
end Go.Proofs.Ytfjfbapiheehaaa.P
end
section
set_option linter.unusedVariables false
set_option linter.unusedSimpArgs false
namespace Go.Proofs.Ytfjfbapiheehaaa.P
open Go.RowKit Go.Proofs.YtfjfbapiheehaaaW.PrintWords Go.Proofs.YtfjfbapiheehaaaW.PrintLast Go.Proofs.YtfjfbapiheehaaaW.PrintMore Go.Proofs.Ytfjfbapiheehaaa.Base
theorem Alts1_idle (pl pf : Addr) (w : World) :
  CallsD Try.prog 74 #[.pointer (some pl), .pointer (some pf)] .returning w fun e u' w' => e = .returned (.tuple #[]) ∧ u' = .returning ∧ w' = w := by
 refine callsD_of_wpS Try.func74 rfl fun c₀ cs hu => ?_
 apply wpS_seq
 apply wpS_region
 simp [wpOpsS, go_sem, recoverD, hu, Try.ntmps74, Exit.thenS]
 apply wpS_seq
 apply wpS_region
 simp [wpOpsS, go_sem, Exit.thenS]
 refine wpS_cond (t := false) (by simp [Act.eval, Array.replicate]) ?_
 simp only [Bool.false_eq_true, if_false]
 refine wpS_of_wp (wp_skip ?_)
 cases c₀
 simp_all [bodyPostS, results, Try.results74]
theorem assert_fault (x : Value) (w : World) : (Instr.typeAssert (.iface 53 x) 20 53 true).run Try.prog w = .ok (.tuple #[x, .bool true]) w := by kernel_rfl
def GoesA (R : Act → World → Prop) : Exit → Act → World → Prop
 | .normal, a, w => R a w
 | _, _, _ => False
def CatchEndA (gl gf : Nat) (e p : Int) (w' : World) : Prop :=
 w'.heap[gl]? = some (.cells #[.slice none 0 0] 78 (0, 0)) ∧ w'.heap[gf]? = some (.cells #[.int .i64 e, .int .i64 p] 53 (0, 0))
set_option maxHeartbeats 1000000 in
theorem Alts1_caught (gl gf : Nat) (ec p : Int) (u : Value) (older : List PanicEntry) (w0 w : World) (hl : w.heap[gl]? = some (.cells #[u] 78 (0, 0))) (hf : w.heap[gf]? = some (.cells #[.int .i64 0, .int .i64 0] 53 (0, 0)))
  (h1 : w0.heap.size ≤ gl) (h2 : w0.heap.size ≤ gf) (HB : Below w0.heap.size w0 w) :
  CallsD Try.prog 74 #[.pointer (some ⟨gl, 0, none⟩), .pointer (some ⟨gf, 0, none⟩)] (.panicking ({ v := .iface 53 (.agg #[.int .i64 ec, .int .i64 p]), recovered := false } :: older)) w fun e u' w' =>
   e = .returned (.tuple #[]) ∧ u' = .panicking ({ v := .iface 53 (.agg #[.int .i64 ec, .int .i64 p]), recovered := true } :: older) ∧ CatchEndA gl gf ec p w' ∧ Below w0.heap.size w0 w' := by
 have hne : gl ≠ gf := blk_ne hl hf (by decide)
 have c0 : w.cell? ⟨gl, 0, none⟩ = some u := (blk_cell hl 0).trans rfl
 have c1 : w.cell? ⟨gf, 0, none⟩ = some (.int .i64 0) := (blk_cell hf 0).trans rfl
 have c2 : w.cell? ⟨gf, 1, none⟩ = some (.int .i64 0) := (blk_cell hf 1).trans rfl
 have f0 := blk_frozen hl 0
 have f1 := blk_frozen hf 0
 have f2 := blk_frozen hf 1
 have ll := blk_lt hl
 have lf := blk_lt hf
 have HL := Aside0.mk hl
 have HF := Aside0.mk hf
 clear hl hf
 refine callsD_of_wpS Try.func74 rfl fun c₀ cs hu => ?_
 simp only [Try.ntmps74, List.size_toArray, List.length_cons, List.length_nil, Nat.reduceAdd, Nat.reduceSub, Array.replicate_succ, Array.replicate_zero, List.push_toArray, List.append_toArray, List.nil_append, List.cons_append]
 apply wpS_seq
 apply wpS_region
 simp [wpOpsS, go_sem, recoverD, hu, Exit.thenS]
 refine wpS_of_wp (wp_mono (Q := GoesA fun a' w' => a'.defers = [] ∧ CatchEndA gl gf ec p w' ∧ Below w0.heap.size w0 w') ?_ ?_)
 ·clear hu
  have hta := fun W => assert_fault (.agg #[.int .i64 ec, .int .i64 p]) W
  go_wp2
  go_region
  all_goals
   refine ⟨rfl, ⟨?_, ?_⟩, ?_⟩
   ·with_reducible repeat (first | exact HL.out | (refine blk_drew ?_) | (refine blk_drewN ?_ _) | (refine blk_alloc ?_ _))
    refine blk_far ?_ hne _
    refine blk_far ?_ hne _
    refine blk_put (cs := #[u]) ?_ 0 _ rfl
    with_reducible repeat (first | exact HL.out | (refine blk_drew ?_) | (refine blk_drewN ?_ _) | (refine blk_alloc ?_ _))
   ·with_reducible repeat (first | exact HF.out | (refine blk_drew ?_) | (refine blk_drewN ?_ _) | (refine blk_alloc ?_ _))
    refine blk_put (cs := #[.int .i64 ec, .int .i64 0]) ?_ 1 _ rfl
    refine blk_put (cs := #[.int .i64 0, .int .i64 0]) ?_ 0 _ rfl
    refine blk_far ?_ (Ne.symm hne) _
    with_reducible repeat (first | exact HF.out | (refine blk_drew ?_) | (refine blk_drewN ?_ _) | (refine blk_alloc ?_ _))
   ·with_reducible repeat (first | exact HB | apply below_alloc | apply pw_below_drewN | apply below_drew1 | (refine below_set ?_ h1) | (refine below_set ?_ h2))
 ·intro e a' w' h
  cases e <;> simp only [GoesA] at h
  obtain ⟨hd, hc, hb⟩ := h
  cases c₀
  simp_all [bodyPostS, results, Try.results74]
end Go.Proofs.Ytfjfbapiheehaaa.P
end
section
set_option linter.unusedVariables false
set_option linter.unusedSimpArgs false
namespace Go.Proofs.Ytfjfbapiheehaaa.P
open Go.RowKit Go.Proofs.YtfjfbapiheehaaaW.PrintWords Go.Proofs.YtfjfbapiheehaaaW.PrintLast Go.Proofs.YtfjfbapiheehaaaW.PrintMore Go.Proofs.Ytfjfbapiheehaaa.Base
def altsGo (e : Int) : Nat → List Tok → List S84 → Except (Int × Int) (List S84)
 | 0, _, _ => .error (0, 0)
 | k + 1, l, out => match defGo e l out with
  | .error p => .error p
  | .ok (out', l') => if l' = [] then .ok out' else altsGo e k l' out'
def AltsPost (w0 : World) (r1 : List S84) (r2 r3 : Int) (e : Ending) (w' : World) : Prop :=
 ∃ v0_ : Value, e = .returned (.tuple #[v0_, .agg #[.int .i64 r2, .int .i64 r3]]) ∧ Kd.R k84 84 w' w0.heap.size (fun _ => True) v0_ r1 ∧ Below w0.heap.size w0 w'
set_option maxHeartbeats 1600000 in
theorem alts_first (A : Option Addr) (c : Nat) (l : List Tok) (e : Int) (w : World) (hC : Kd.C k82 w A l.length l) (hc : l.length ≤ c) (hl : l.length ≤ 1000000000) (pc pp : Int) (hd : defGo e l [] = .error (pc, pp)) :
  Calls Try.prog 55 #[.slice A l.length c, .int .i64 e] w (AltsPost w [] pc pp) := by
 have hmf : ∀ (fn : Fn) (first cap : Array Value) (w : World), (Instr.makeFunc fn first cap).run Try.prog w = .ok (.func fn first cap) w := fun _ _ _ _ => rfl
 have hR : Reader w (((w.alloc (.cells #[.slice none 0 0] 78 (0, 0))).alloc (.cells #[.int .i64 0, .int .i64 0] 53 (0, 0))).alloc (.cells #[.slice A l.length c, .int .i64 e, .slice none 0 0] 106 (0, 0))) (w.heap.size + 1 + 1) l e [] := by
  refine ⟨A, c, .slice none 0 0, ?_, hc, hC, Kd.R_nil _ _ _ _ _, ?_, by omega⟩
  ·have := blk_new ((w.alloc (.cells #[.slice none 0 0] 78 (0, 0))).alloc (.cells #[.int .i64 0, .int .i64 0] 53 (0, 0))) (.cells #[.slice A l.length c, .int .i64 e, .slice none 0 0] 106 (0, 0))
   simp only [World.size_alloc] at this
   exact this
  ·exact below_alloc (below_alloc (below_alloc (Below.refl _ _) _) _) _
 have HX := Aside0.mk (def_any _ _ _ l e [] hR hl _ hd)
 clear hR hd hC
 go_enter_defers Try.func55, Try.ntmps55
 go_wp2_with (first | (go_at_call 75; refine (HX.out).mono ?_; rintro e' w3 ⟨rfl, hb3, hk3⟩))
 have hl3 := Kept.at hk3 (k := w.heap.size) (cells := #[.slice none 0 0]) (t := 78) (blk_alloc (blk_alloc (blk_new _ _) _) _) (by omega) (by decide)
 have hf3 := Kept.at hk3 (k := w.heap.size + 1) (cells := #[.int .i64 0, .int .i64 0]) (t := 53) (blk_alloc (by have := blk_new (w.alloc (.cells #[.slice none 0 0] 78 (0, 0))) (.cells #[.int .i64 0, .int .i64 0] 53 (0, 0)); rw [World.size_alloc] at this; exact this) _) (by omega) (by decide)
 refine leaves_cons (f := 74) (args := #[.pointer (some ⟨w.heap.size, 0, none⟩), .pointer (some ⟨w.heap.size + 1, 0, none⟩)]) (by simp) (by simp [go_sem]) ?_
 refine (Alts1_caught w.heap.size (w.heap.size + 1) pc pp _ [] w _ hl3 hf3 (Nat.le_refl _) (Nat.le_succ _) hb3).mono ?_
 rintro e u' w4 ⟨rfl, rfl, ⟨hc1, hc2⟩, hb4⟩
 have c0 : w4.cell? ⟨w.heap.size, 0, none⟩ = some (.slice none 0 0) := (blk_cell hc1 0).trans rfl
 have c1 : w4.cell? ⟨w.heap.size + 1, 0, none⟩ = some (.int .i64 pc) := (blk_cell hc2 0).trans rfl
 have c2 : w4.cell? ⟨w.heap.size + 1, 1, none⟩ = some (.int .i64 pp) := (blk_cell hc2 1).trans rfl
 refine ⟨.tuple #[.slice none 0 0, .agg #[.int .i64 pc, .int .i64 pp]], by simp [results, Try.results55, go_sem, c0, c1, c2], ⟨_, rfl, Kd.R_nil _ _ _ _ _, hb4⟩⟩
theorem bars_less (x : Tok) (e : Int) (k : Nat) : ∀ l out q, barsGo x e k l out = .ok q → q.2.length < l.length := by
 induction k with
 | zero => intro l out q h; simp [barsGo] at h
 | succ k ih =>
  intro l out q h
  simp only [barsGo] at h
  split at h
  ·cases h
  ·rename_i r t l' hq
   have h1 := altGo_less _ _ _ _ _ _ hq
   simp only at h1
   split at h
   ·have := ih _ _ _ h; omega
   ·injection h with h; subst h; exact h1
theorem def_less (e : Int) (l : List Tok) (out : List S84) (q : List S84 × List Tok) (h : defGo e l out = .ok q) : q.2.length < l.length := by
 cases l with
 | nil => simp [defGo] at h
 | cons t l =>
  simp only [defGo] at h
  split at h
  ·cases l with
   | nil => cases h
   | cons u l =>
    simp only at h
    split at h
    ·have := bars_less _ _ _ _ _ _ h; simp only [List.length_cons]; omega
    ·cases h
  ·cases h
def AltsEnd (w0 : World) (o : Except (Int × Int) (List S84)) (e : Ending) (w' : World) : Prop :=
 match o with
 | .ok r => AltsPost w0 r 0 0 e w'
 | .error (c, p) => AltsPost w0 [] c p e w'
set_option maxHeartbeats 3200000 in
theorem alts_main (A : Option Addr) (c : Nat) (l : List Tok) (e : Int) (w : World) (hC : Kd.C k82 w A l.length l) (hc : l.length ≤ c) (hl : l.length ≤ 1000000000) (l1 : List Tok) (out1 : List S84) (hd : defGo e l [] = .ok (out1, l1)) (hl1 : l1.length ≤ 1000000000) (o : Except (Int × Int) (List S84)) (ho : (if l1 = [] then .ok out1 else altsGo e (l1.length + 1) l1 out1) = o) :
  Calls Try.prog 55 #[.slice A l.length c, .int .i64 e] w (AltsEnd w o) := by
 have hmf : ∀ (fn : Fn) (first cap : Array Value) (w : World), (Instr.makeFunc fn first cap).run Try.prog w = .ok (.func fn first cap) w := fun _ _ _ _ => rfl
 have hR : Reader w (((w.alloc (.cells #[.slice none 0 0] 78 (0, 0))).alloc (.cells #[.int .i64 0, .int .i64 0] 53 (0, 0))).alloc (.cells #[.slice A l.length c, .int .i64 e, .slice none 0 0] 106 (0, 0))) (w.heap.size + 1 + 1) l e [] := by
  refine ⟨A, c, .slice none 0 0, ?_, hc, hC, Kd.R_nil _ _ _ _ _, ?_, by omega⟩
  ·have := blk_new ((w.alloc (.cells #[.slice none 0 0] 78 (0, 0))).alloc (.cells #[.int .i64 0, .int .i64 0] 53 (0, 0))) (.cells #[.slice A l.length c, .int .i64 e, .slice none 0 0] 106 (0, 0))
   simp only [World.size_alloc] at this
   exact this
  ·exact below_alloc (below_alloc (below_alloc (Below.refl _ _) _) _) _
 have HX := Aside0.mk (def_any _ _ _ l e [] hR hl _ hd)
 have HO := Aside0.mk ho
 clear hR hd hC ho
 go_enter_defers Try.func55, Try.ntmps55
 go_wp2_with (first | (go_at_call 75; refine (HX.out).mono ?_; rintro e' w3 ⟨rfl, hR3, hK3⟩))
 have hl3 := Aside0.mk (Kept.at hK3 (k := w.heap.size) (cells := #[.slice none 0 0]) (t := 78) (blk_alloc (blk_alloc (blk_new _ _) _) _) (by omega) (by decide))
 have hf3 := Aside0.mk (Kept.at hK3 (k := w.heap.size + 1) (cells := #[.int .i64 0, .int .i64 0]) (t := 53) (blk_alloc (by have := blk_new (w.alloc (.cells #[.slice none 0 0] 78 (0, 0))) (.cells #[.int .i64 0, .int .i64 0] 53 (0, 0)); rw [World.size_alloc] at this; exact this) _) (by omega) (by decide))
 have HR3 := Aside0.mk hR3
 clear hR3 hK3
 go_loopw [14] (fun v14 w' => ∃ (l' : List Tok) (out' : List S84) (k : Nat), Aside0 (Reader w w' (w.heap.size + 1 + 1) l' e out') ∧ Aside0 (w'.heap[w.heap.size]? = some (.cells #[.slice none 0 0] 78 (0, 0))) ∧ Aside0 (w'.heap[w.heap.size + 1]? = some (.cells #[.int .i64 0, .int .i64 0] 53 (0, 0))) ∧ Aside0 ((if l' = [] then .ok out' else altsGo e k l' out') = o) ∧ Aside0 (l'.length < k) ∧ Aside0 (l'.length ≤ 1000000000) ∧ v14 = v14) (fun _ w' => lenAt (w.heap.size + 1 + 1) w')
 case atStart => exact ⟨l1, out1, l1.length + 1, HR3, hl3, hf3, HO, ⟨Nat.lt_succ_self _⟩, ⟨hl1⟩, rfl⟩
 case round =>
  obtain ⟨l', out', k, HA, HL, HF, HG, HLK, HLL, _⟩ := hrel
  cases l' with
  | nil =>
   have ho := HG.out
   simp only [if_true] at ho
   subst ho
   obtain ⟨A', c', ov', b, hlc', hC', hOV, hB', hg'⟩ := HA.out
   obtain ⟨OA, OC, hov⟩ := Kd.R_slice hOV
   subst hov
   have HOV := Aside0.mk hOV
   have HB := Aside0.mk hB'
   have HBK := Aside0.mk b
   have x0 : wr.cell? ⟨w.heap.size + 1 + 1, 0, none⟩ = some (.slice A' 0 c') := (blk_cell b 0).trans rfl
   have x2 : wr.cell? ⟨w.heap.size + 1 + 1, 2, none⟩ = some (.slice OA out'.length OC) := (blk_cell b 2).trans rfl
   have c0 : wr.cell? ⟨w.heap.size, 0, none⟩ = some (.slice none 0 0) := (blk_cell HL.out 0).trans rfl
   have c1 : wr.cell? ⟨w.heap.size + 1, 0, none⟩ = some (.int .i64 0) := (blk_cell HF.out 0).trans rfl
   have c2 : wr.cell? ⟨w.heap.size + 1, 1, none⟩ = some (.int .i64 0) := (blk_cell HF.out 1).trans rfl
   have f0 := blk_frozen HL.out 0
   have f1 := blk_frozen HF.out 0
   have f2 := blk_frozen HF.out 1
   clear b hlc' hC' hOV hB' hg'
   go_wp2
   refine leaves_cons (f := 74) (args := #[.pointer (some ⟨w.heap.size, 0, none⟩), .pointer (some ⟨w.heap.size + 1, 0, none⟩)]) (by simp) (by simp [go_sem]) ?_
   refine (Alts1_idle _ _ _).mono ?_
   rintro e' u' w'' ⟨rfl, rfl, rfl⟩
   refine ⟨.tuple #[.slice OA out'.length OC, .agg #[.int .i64 0, .int .i64 0]], by simp [results, Try.results55, go_sem, c0, c1, c2, f0, f1, f2], ⟨_, rfl, ?_, ?_⟩⟩
   ·refine Kd.R_mono (Kd.R_step (Kd.R_types (Kd.R_types HOV.out HL.out (fun q hq => ?_)) HF.out (fun q hq => ?_)) (fun k hk hlt => ?_)) (fun _ _ => trivial)
    ·exact (show ∀ q ∈ (84 :: (k84).E), 78 ≠ q by decide) q hq ∘ Eq.symm
    ·exact (show ∀ q ∈ (84 :: (k84).E), 53 ≠ q by decide) q hq ∘ Eq.symm
    ·rw [Below.heap_setCell _ _ _ _ hk.2, Below.heap_setCell _ _ _ _ hk.2, Below.heap_setCell _ _ _ _ hk.1.2]
   ·have h1 : w.heap.size ≤ w.heap.size := Nat.le_refl _
    have h2 : w.heap.size ≤ w.heap.size + 1 := Nat.le_succ _
    with_reducible repeat (first | exact HB.out | apply below_alloc | apply pw_below_drewN | apply below_drew1 | (refine below_set ?_ h1) | (refine below_set ?_ h2))
  | cons t l' =>
   have ho := HG.out
   rw [if_neg (by simp)] at ho
   obtain ⟨k, rfl⟩ : ∃ m, k = m + 1 := ⟨k - 1, by have := HLK.out; omega⟩
   simp only [altsGo] at ho
   have HALL := fun q hq => Aside0.mk (def_any w wr _ (t :: l') e out' HA.out HLL.out q hq)
   obtain ⟨A', c', ov', b, hrest⟩ := HA.out
   have x0 : wr.cell? ⟨w.heap.size + 1 + 1, 0, none⟩ = some (.slice A' (t :: l').length c') := (blk_cell b 0).trans rfl
   clear b hrest
   cases hq : defGo e (t :: l') out' with
   | error p =>
    obtain ⟨pc, pp⟩ := p
    rw [hq] at ho
    simp only at ho
    subst ho
    have HD := HALL _ hq
    clear HALL hq
    go_wp2_with (first | (go_at_call 75; refine (HD.out).mono ?_; rintro e' w5 ⟨rfl, hb5, hk5⟩))
    have hl5 := Kept.at hk5 HL.out (by omega) (by decide)
    have hf5 := Kept.at hk5 HF.out (by omega) (by decide)
    refine leaves_cons (f := 74) (args := #[.pointer (some ⟨w.heap.size, 0, none⟩), .pointer (some ⟨w.heap.size + 1, 0, none⟩)]) (by simp) (by simp [go_sem]) ?_
    refine (Alts1_caught w.heap.size (w.heap.size + 1) pc pp _ [] w _ hl5 hf5 (Nat.le_refl _) (Nat.le_succ _) hb5).mono ?_
    rintro e u' w4 ⟨rfl, rfl, ⟨hc1, hc2⟩, hb4⟩
    have c0 : w4.cell? ⟨w.heap.size, 0, none⟩ = some (.slice none 0 0) := (blk_cell hc1 0).trans rfl
    have c1 : w4.cell? ⟨w.heap.size + 1, 0, none⟩ = some (.int .i64 pc) := (blk_cell hc2 0).trans rfl
    have c2 : w4.cell? ⟨w.heap.size + 1, 1, none⟩ = some (.int .i64 pp) := (blk_cell hc2 1).trans rfl
    refine ⟨.tuple #[.slice none 0 0, .agg #[.int .i64 pc, .int .i64 pp]], by simp [results, Try.results55, go_sem, c0, c1, c2], ⟨_, rfl, Kd.R_nil _ _ _ _ _, hb4⟩⟩
   | ok q =>
    obtain ⟨out5, l5⟩ := q
    rw [hq] at ho
    simp only at ho
    have HLS := Aside0.mk (def_less e (t :: l') out' _ hq)
    have HO5 := Aside0.mk ho
    have HLE := Aside0.mk (Reader.len HA.out)
    have HD := HALL _ hq
    clear HALL hq ho
    go_wp2_with (first | (go_at_call 75; refine (HD.out).mono ?_; rintro e' w5 ⟨rfl, hR5, hk5⟩; have hl5 := Aside0.mk (Kept.at hk5 HL.out (by omega) (by decide)); have hf5 := Aside0.mk (Kept.at hk5 HF.out (by omega) (by decide)); have HR5 := Aside0.mk hR5; clear hR5 hk5))
    refine ⟨⟨l5, out5, k, HR5, hl5, hf5, HO5, ⟨?_⟩, ⟨?_⟩, trivial⟩, ?_⟩
    ·have := HLK.out; have := HLS.out; omega
    ·have := HLL.out; have := HLS.out; omega
    ·rw [HLE.out, HR5.out.len]; exact HLS.out
end Go.Proofs.Ytfjfbapiheehaaa.P
end
section
set_option linter.unusedVariables false
set_option linter.unusedSimpArgs false
namespace Go.Proofs.Ytfjfbapiheehaaa.P
open Go.RowKit Go.Proofs.YtfjfbapiheehaaaW.PrintWords Go.Proofs.YtfjfbapiheehaaaW.PrintLast Go.Proofs.YtfjfbapiheehaaaW.PrintMore Go.Proofs.Ytfjfbapiheehaaa.Base
abbrev TkOf : Tok → Int := fun t => t.f0
abbrev TaOf : Tok → Int := fun t => t.f2
abbrev rrun (e : Int) (s : RS.St Tok × RS.Out Tok) (l : List Tok) := RS.run TkOf TaOf e s l
def altOf (p : Tok × List Tok) : S84 := ⟨p.1, p.2⟩
theorem rrun_cons (e : Int) (s : RS.St Tok × RS.Out Tok) (t : Tok) (l : List Tok) : rrun e s (t :: l) = match RS.step TkOf TaOf s t with
  | .ok s' => rrun e s' l
  | .error p => .error p := by
 show RS.run _ _ _ _ _ = _
 unfold RS.run
 rw [RS.steps_cons]
 cases RS.step TkOf TaOf s t <;> rfl
theorem alt_run (x : Tok) (e : Int) (out : RS.Out Tok) (l : List Tok) : ∀ r, match altGo x e out.length l r with
  | .error p => rrun e (.body x r, out) l = .error p
  | .ok (r', t, l') => rrun e (.body x r, out) l = rrun e (if t.f0 = 4 then .body x [] else .start, out ++ [(x, r')]) l' := by
 induction l with
 | nil => intro r; simp [altGo, RS.run, RS.steps, RS.fin]
 | cons t l ih =>
  intro r
  rw [rrun_cons]
  simp only [altGo, RS.step]
  by_cases h12 : t.f0 = 1 ∨ t.f0 = 2
  ·rw [if_pos h12, if_pos h12]
   exact ih (r ++ [t])
  ·rw [if_neg h12, if_neg h12]
   by_cases h45 : t.f0 = 4 ∨ t.f0 = 5
   ·rw [if_pos h45, if_pos h45]
    by_cases hc : 60 ≤ out.length ∨ 8 < r.length
    ·rw [if_pos hc, if_pos hc]
    ·rw [if_neg hc, if_neg hc]
   ·rw [if_neg h45, if_neg h45]
theorem bars_run (x : Tok) (e : Int) (k : Nat) : ∀ (l : List Tok) (out : RS.Out Tok), l.length < k → match barsGo x e k l (out.map altOf) with
  | .error p => rrun e (.body x [], out) l = .error p
  | .ok (out', l') => ∃ o' : RS.Out Tok, out' = o'.map altOf ∧ o' ≠ [] ∧ rrun e (.body x [], out) l = rrun e (.start, o') l' := by
 induction k with
 | zero => intro l out h; omega
 | succ k ih =>
  intro l out hk
  have h1 := alt_run x e out l []
  have h2 := altGo_less x e out.length l []
  simp only [barsGo, List.length_map]
  cases ha : altGo x e out.length l [] with
  | error p => rw [ha] at h1; exact h1
  | ok q =>
   obtain ⟨r, t, l'⟩ := q
   rw [ha] at h1
   have h3 := h2 _ ha
   simp only at h1 h3 ⊢
   by_cases h4 : t.f0 = 4
   ·rw [if_pos h4] at h1 ⊢
    have h5 := ih l' (out ++ [(x, r)]) (by omega)
    have e1 : (out ++ [(x, r)]).map altOf = out.map altOf ++ [⟨x, r⟩] := by simp [altOf]
    rw [e1] at h5
    rw [h1]
    exact h5
   ·rw [if_neg h4] at h1 ⊢
    exact ⟨out ++ [(x, r)], by simp [altOf], by simp, h1⟩
theorem def_run (e : Int) (l : List Tok) (out : RS.Out Tok) (hn : l ≠ [] ∨ out = []) : match defGo e l (out.map altOf) with
  | .error p => rrun e (.start, out) l = .error p
  | .ok (out', l') => ∃ o' : RS.Out Tok, out' = o'.map altOf ∧ o' ≠ [] ∧ rrun e (.start, out) l = rrun e (.start, o') l' := by
 cases l with
 | nil =>
  rcases hn with hn | hn
  ·exact absurd rfl hn
  ·subst hn; rfl
 | cons t l =>
  rw [rrun_cons]
  simp only [defGo, RS.step]
  by_cases h1 : t.f0 = 1
  ·rw [if_pos h1, if_pos h1]
   cases l with
   | nil => rfl
   | cons u l =>
    simp only
    rw [rrun_cons]
    simp only [RS.step]
    by_cases h3 : u.f0 = 3
    ·rw [if_pos h3, if_pos h3]
     exact bars_run t e (l.length + 1) l out (Nat.lt_succ_self _)
    ·rw [if_neg h3, if_neg h3]
  ·rw [if_neg h1, if_neg h1]
theorem alts_run (e : Int) (k : Nat) : ∀ (l : List Tok) (out : RS.Out Tok), l.length < k → l ≠ [] → match altsGo e k l (out.map altOf) with
  | .error p => rrun e (.start, out) l = .error p
  | .ok out' => ∃ o' : RS.Out Tok, out' = o'.map altOf ∧ rrun e (.start, out) l = .ok o' := by
 induction k with
 | zero => intro l out h; omega
 | succ k ih =>
  intro l out hk hne
  have h1 := def_run e l out (Or.inl hne)
  have h2 := def_less e l (out.map altOf)
  simp only [altsGo]
  cases hd : defGo e l (out.map altOf) with
  | error p => rw [hd] at h1; exact h1
  | ok q =>
   obtain ⟨out', l'⟩ := q
   rw [hd] at h1
   have h3 := h2 _ hd
   obtain ⟨o', rfl, ho, hr⟩ := h1
   simp only at h3 ⊢
   by_cases hl : l' = []
   ·rw [if_pos hl]
    subst hl
    exact ⟨o', rfl, by rw [hr]; show RS.run _ _ _ _ _ = _; simp [RS.run, RS.steps, RS.fin, ho]⟩
   ·rw [if_neg hl, hr]
    exact ih l' o' (by omega) hl
end Go.Proofs.Ytfjfbapiheehaaa.P
end
section
namespace Go.Proofs.Ytfjfbapiheehaaa.P
open Go.RowKit Go.Proofs.YtfjfbapiheehaaaW.PrintWords Go.Proofs.YtfjfbapiheehaaaW.PrintLast Go.Proofs.YtfjfbapiheehaaaW.PrintMore
attribute [local go_sem] max2_int min2_int max_two min_two max_three min_three max_four min_four   -- for this text's walks alone
set_option linter.unusedVariables false
set_option linter.unusedSimpArgs false
def read_Alts.f (l0 : List S82) (a1 : Int) : Option (List S84 × Int × Int) :=
 if l0.length ≤ 1000000000 then
  match rrun a1 (.start, []) l0 with
  | .ok out => some (out.map altOf, 0, 0)
  | .error (e, p) => some ([], e, p)
 else none
theorem read_Alts.calls (A0 : Option Addr) (c0 : Nat) (l0 : List S82) (a1 : Int) (r1 : List S84) (r2 : Int) (r3 : Int) (w : World) (hr0 : Kd.C k82 w A0 l0.length l0) (hc0 : l0.length ≤ c0) (h : read_Alts.f l0 a1 = some (r1, r2, r3)) :
  Calls Try.prog 55 #[.slice A0 l0.length c0, .int .i64 a1] w fun e w' => ∃ v0_ : Value, e = .returned (.tuple #[v0_, .agg #[.int .i64 r2, .int .i64 r3]]) ∧ Kd.R k84 84 w' w.heap.size (fun _ => True) v0_ r1 ∧ Below w.heap.size w w' := by
 unfold read_Alts.f at h
 by_cases hl : l0.length ≤ 1000000000
 ·rw [if_pos hl] at h
  have h1 := def_run a1 l0 [] (Or.inr rfl)
  rw [List.map_nil] at h1
  cases hd : defGo a1 l0 [] with
  | error p =>
   obtain ⟨pc, pp⟩ := p
   rw [hd] at h1
   simp only at h1
   rw [h1] at h
   simp only [Option.some.injEq, Prod.mk.injEq] at h
   obtain ⟨rfl, rfl, rfl⟩ := h
   exact alts_first A0 c0 l0 a1 w hr0 hc0 hl pc pp hd
  | ok q =>
   obtain ⟨out1, l1⟩ := q
   rw [hd] at h1
   obtain ⟨o', ho', hne, hrun⟩ := h1
   have hlt := def_less a1 l0 [] _ hd
   simp only at hlt
   have hm := alts_main A0 c0 l0 a1 w hr0 hc0 hl l1 out1 hd (by omega) _ rfl
   rw [hrun] at h
   subst ho'
   refine hm.mono ?_
   intro e w' he
   by_cases hl1 : l1 = []
   ·rw [if_pos hl1] at he
    subst hl1
    have : rrun a1 (.start, o') [] = .ok o' := by show RS.run _ _ _ _ _ = _; simp [RS.run, RS.steps, RS.fin, hne]
    rw [this] at h
    simp only [Option.some.injEq, Prod.mk.injEq] at h
    obtain ⟨rfl, rfl, rfl⟩ := h
    exact he
   ·rw [if_neg hl1] at he
    have h2 := alts_run a1 (l1.length + 1) l1 o' (Nat.lt_succ_self _) hl1
    cases ha : altsGo a1 (l1.length + 1) l1 (o'.map altOf) with
    | error p =>
     obtain ⟨pc, pp⟩ := p
     rw [ha] at h2 he
     simp only at h2
     rw [h2] at h
     simp only [Option.some.injEq, Prod.mk.injEq] at h
     obtain ⟨rfl, rfl, rfl⟩ := h
     exact he
    | ok o2 =>
     rw [ha] at h2 he
     obtain ⟨o3, rfl, h3⟩ := h2
     rw [h3] at h
     simp only [Option.some.injEq, Prod.mk.injEq] at h
     obtain ⟨rfl, rfl, rfl⟩ := h
     exact he
 ·rw [if_neg hl] at h; cases h
end Go.Proofs.Ytfjfbapiheehaaa.P
end
section
namespace Go.Proofs.Ytfjfbapiheehaaa.P
open Go.RowKit Go.Proofs.YtfjfbapiheehaaaW.PrintWords Go.Proofs.YtfjfbapiheehaaaW.PrintLast Go.Proofs.YtfjfbapiheehaaaW.PrintMore
attribute [local go_sem] max2_int min2_int max_two min_two max_three min_three max_four min_four   -- for this text's walks alone
set_option linter.unusedVariables false
set_option linter.unusedSimpArgs false
open Go.Proofs.Ytfjfbapiheehaaa.Base
def lex_skipped.f (a0 : ByteArray) : Option Int := if a0.size ≤ 4611686018427387904 then some (LexSpec.skip false (bytesOf a0) : Int) else none
theorem lex_skipped.of (a0 : ByteArray) (h : a0.size ≤ 4611686018427387904) : lex_skipped.f a0 = some (LexSpec.skip false (bytesOf a0) : Int) := by unfold lex_skipped.f; rw [if_pos h]
theorem drop_cons (s : ByteArray) (n : Nat) (h : n < s.size) : (bytesOf s).drop n = ((s[n]'h).toNat : Int) :: (bytesOf s).drop (n + 1) := by
 rw [List.drop_eq_getElem_cons (by rw [bytesOf_length]; exact h)]
 congr 1
 rw [← bytesOf_getD s n h, List.getD_eq_getElem?_getD, List.getElem?_eq_getElem (by rw [bytesOf_length]; exact h)]
 rfl
set_option maxHeartbeats 1600000 in
theorem lex_skipped.calls (a0 : ByteArray) (r : Int) (w : World) (h : lex_skipped.f a0 = some r) :
  Calls Try.prog 72 #[.string a0] w fun e w' => e = .returned (.int .i64 r) ∧ Drawn0 w w' := by
 unfold lex_skipped.f at h
 by_cases hs : a0.size ≤ 4611686018427387904
 ·rw [if_pos hs] at h
  have h := Option.some.inj h
  have HR := Aside0.mk h
  clear h
  go_enter Try.func72, Try.ntmps72
  go_wp2
  go_loopw [2, 3] (fun v i w' => ∃ n : Nat, v = .int .i64 0 ∧ n ≤ a0.size ∧ i = .int .i64 n ∧ Aside0 ((n : Int) + (LexSpec.skip false ((bytesOf a0).drop n) : Int) = r) ∧ Drawn0 w w') (fun _ i _ => a0.size - (intOf i).toNat)
  case atStart => exact ⟨0, rfl, by omega, rfl, ⟨by have := HR.out; simpa using this⟩, Drawn0.refl _⟩
  case round =>
   obtain ⟨n, rfl, hn, rfl, HA, ⟨m, rfl⟩⟩ := hrel
   by_cases hlt : n < a0.size
   ·have hd := drop_cons a0 n hlt
    have HD := Aside0.mk hd
    clear hd
    generalize hc : ((a0[n]'hlt).toNat : Int) = c at *
    have HC := Aside0.mk hc
    have hr := HA.out
    rw [HD.out] at hr
    clear HA
    have HLT := Aside0.mk hlt
    by_cases c32 : c = 32
    ·have HH := Aside0.mk (show ((n + 1 : Nat) : Int) + (LexSpec.skip false ((bytesOf a0).drop (n + 1)) : Int) = r by rw [← hr]; simp [LexSpec.skip, c32]; omega)
     have b1 : (c == 32) = true := by simp [c32]
     clear c32 hr
     go_wp2
     go_roundw
     case rel => exact ⟨n + 1, rfl, HLT.out, by go_num, HH, by repeat (first | exact Drawn0.refl _ | apply Drawn0.step)⟩
     case measure => simp [intOf]; have := HLT.out; omega
    ·by_cases c9 : c = 9
     ·have HH := Aside0.mk (show ((n + 1 : Nat) : Int) + (LexSpec.skip false ((bytesOf a0).drop (n + 1)) : Int) = r by rw [← hr]; simp [LexSpec.skip, c9]; omega)
      have b1 : (c == 32) = false := by simp [c32]
      have b2 : (c == 9) = true := by simp [c9]
      clear c32 c9 hr
      go_wp2
      go_roundw
      case rel => exact ⟨n + 1, rfl, HLT.out, by go_num, HH, by repeat (first | exact Drawn0.refl _ | apply Drawn0.step)⟩
      case measure => simp [intOf]; have := HLT.out; omega
     ·by_cases c10 : c = 10
      ·have HH := Aside0.mk (show ((n + 1 : Nat) : Int) + (LexSpec.skip false ((bytesOf a0).drop (n + 1)) : Int) = r by rw [← hr]; simp [LexSpec.skip, c10]; omega)
       have b1 : (c == 32) = false := by simp [c32]
       have b2 : (c == 9) = false := by simp [c9]
       have b3 : (c == 10) = true := by simp [c10]
       clear c32 c9 c10 hr
       go_wp2
       go_roundw
       case rel => exact ⟨n + 1, rfl, HLT.out, by go_num, HH, by repeat (first | exact Drawn0.refl _ | apply Drawn0.step)⟩
       case measure => simp [intOf]; have := HLT.out; omega
      ·have b1 : (c == 32) = false := by simp [c32]
       have b2 : (c == 9) = false := by simp [c9]
       have b3 : (c == 10) = false := by simp [c10]
       by_cases c35 : c = 35
       ·have hk : LexSpec.run LexSpec.noNl ((bytesOf a0).drop n) ≤ a0.size - n := by
         have := LexSpec.run_le LexSpec.noNl ((bytesOf a0).drop n); rwa [List.length_drop, bytesOf_length] at this
        have hp : 0 < LexSpec.run LexSpec.noNl ((bytesOf a0).drop n) := by rw [HD.out, c35]; simp [LexSpec.run, LexSpec.noNl]
        have hh : ((n + LexSpec.run LexSpec.noNl ((bytesOf a0).drop n) : Nat) : Int) + (LexSpec.skip false ((bytesOf a0).drop (n + LexSpec.run LexSpec.noNl ((bytesOf a0).drop n))) : Int) = r := by
         rw [← hr, c35, LexSpec.skip_hash, ← c35, ← HD.out, List.drop_drop]; omega
        have hb : bytesOf (a0.extract n a0.size) = (bytesOf a0).drop n := bytesOf_tail a0 n
        generalize hk0 : LexSpec.run LexSpec.noNl ((bytesOf a0).drop n) = k at *
        have HK := Aside0.mk hk0
        clear hk0
        have hz : (a0.extract n a0.size).size ≤ 4611686018427387904 := by rw [size_tail]; omega
        have HH := Aside0.mk hh
        have HB := Aside0.mk hb
        have b4 : (c == 35) = true := by simp [c35]
        have hkk : n + k ≤ a0.size := by omega
        clear c32 c9 c10 c35 hr hh hb
        have HX : ∀ W, Calls Try.prog 82 #[.string (a0.extract n a0.size), .func (.func 88) #[] #[]] W fun e w' => e = .returned (.int .i64 k) ∧ Drawn0 W w' := by
         intro W
         refine (lex_run.noNl_ _ W hz).mono fun e w2 hp2 => ?_
         rw [HB.out, HK.out] at hp2
         exact hp2
        have HX := Aside0.mk HX
        go_wp2_with (first | (go_at_call 82; refine (HX.out _).mono ?_; rintro e w' ⟨rfl, ⟨nd, rfl⟩⟩))
        go_roundw
        case rel => exact ⟨n + k, rfl, hkk, by go_num, HH, by repeat (first | exact Drawn0.refl _ | apply Drawn0.step)⟩
        case measure => simp [intOf]; omega
       ·have hh : (n : Int) = r := by
         rw [← hr]; simp [LexSpec.skip, c32, c9, c10, c35]
        have HH := Aside0.mk hh
        have b4 : (c == 35) = false := by simp [c35]
        clear c32 c9 c10 c35 hr hh
        go_wp2
        go_ret
        exact ⟨ret_int HH.out, by repeat (first | exact Drawn0.refl _ | apply Drawn0.step)⟩
   ·obtain rfl : n = a0.size := by omega
    have hh : (a0.size : Int) = r := by
     rw [← HA.out, List.drop_of_length_le (by rw [bytesOf_length]; omega)]; simp [LexSpec.skip]
    have HH := Aside0.mk hh
    clear HA hh
    go_wp2
    go_ret
    exact ⟨ret_int HH.out, by repeat (first | exact Drawn0.refl _ | apply Drawn0.step)⟩
 ·rw [if_neg hs] at h; cases h
end Go.Proofs.Ytfjfbapiheehaaa.P
end
section
namespace Go.Proofs.Ytfjfbapiheehaaa.P
open Go.RowKit Go.Proofs.YtfjfbapiheehaaaW.PrintWords Go.Proofs.YtfjfbapiheehaaaW.PrintLast Go.Proofs.YtfjfbapiheehaaaW.PrintMore
attribute [local go_sem] max2_int min2_int max_two min_two max_three min_three max_four min_four   -- for this text's walks alone
set_option linter.unusedVariables false
set_option linter.unusedSimpArgs false
def lex_signs.f (a0 : Int) : Option (Int) := if a0 = 61 then (some 3) else (if a0 = 124 then (some 4) else (if a0 = 59 then (some 5) else (some 0)))
set_option maxHeartbeats 8000000 in
set_option maxRecDepth 100000 in
theorem lex_signs.calls (a0 : Int) (r : Int) (w : World) (h : lex_signs.f a0 = some r) :
  Calls Try.prog 89 #[.int .u8 a0] w fun e w' => e = .returned (.int .i64 r) ∧ Drawn0 w w' := by
 have H : (if a0 = 61 then (some 3) else (if a0 = 124 then (some 4) else (if a0 = 59 then (some 5) else (some 0)))) = some r := h
 clear h
 by_cases c2 : a0 = 61
 ·rw [if_pos c2] at H
  have c2b0 : (a0 == 61) = true := beq_iff_eq.mpr c2
  have c2b1 : (a0 != 61) = false := bne_eq_false_iff_eq.mpr c2
  clear c2
  obtain rfl := Option.some.inj H
  go_enter Try.func89, Try.ntmps89
  go_wp2
  go_ret
  exact ⟨by first | rfl | (simp; done) | (simp [*]; done), by repeat (first | exact Drawn0.refl _ | apply Drawn0.step)⟩
 ·rw [if_neg c2] at H
  have c2b0 : (a0 == 61) = false := beq_eq_false_iff_ne.mpr c2
  have c2b1 : (a0 != 61) = true := bne_iff_ne.mpr c2
  by_cases c3 : a0 = 124
  ·rw [if_pos c3] at H
   have c3b0 : (a0 == 124) = true := beq_iff_eq.mpr c3
   have c3b1 : (a0 != 124) = false := bne_eq_false_iff_eq.mpr c3
   clear c3
   obtain rfl := Option.some.inj H
   go_enter Try.func89, Try.ntmps89
   go_wp2
   go_ret
   exact ⟨by first | rfl | (simp; done) | (simp [*]; done), by repeat (first | exact Drawn0.refl _ | apply Drawn0.step)⟩
  ·rw [if_neg c3] at H
   have c3b0 : (a0 == 124) = false := beq_eq_false_iff_ne.mpr c3
   have c3b1 : (a0 != 124) = true := bne_iff_ne.mpr c3
   by_cases c4 : a0 = 59
   ·rw [if_pos c4] at H
    have c4b0 : (a0 == 59) = true := beq_iff_eq.mpr c4
    have c4b1 : (a0 != 59) = false := bne_eq_false_iff_eq.mpr c4
    clear c4
    obtain rfl := Option.some.inj H
    go_enter Try.func89, Try.ntmps89
    go_wp2
    go_ret
    exact ⟨by first | rfl | (simp; done) | (simp [*]; done), by repeat (first | exact Drawn0.refl _ | apply Drawn0.step)⟩
   ·rw [if_neg c4] at H
    have c4b0 : (a0 == 59) = false := beq_eq_false_iff_ne.mpr c4
    have c4b1 : (a0 != 59) = true := bne_iff_ne.mpr c4
    obtain rfl := Option.some.inj H
    go_enter Try.func89, Try.ntmps89
    go_wp2
    go_ret
    exact ⟨by first | rfl | (simp; done) | (simp [*]; done), by repeat (first | exact Drawn0.refl _ | apply Drawn0.step)⟩
end Go.Proofs.Ytfjfbapiheehaaa.P
end
section
namespace Go.Proofs.Ytfjfbapiheehaaa.P
open Go.RowKit Go.Proofs.YtfjfbapiheehaaaW.PrintWords Go.Proofs.YtfjfbapiheehaaaW.PrintLast Go.Proofs.YtfjfbapiheehaaaW.PrintMore
attribute [local go_sem] max2_int min2_int max_two min_two max_three min_three max_four min_four   -- for this text's walks alone
set_option linter.unusedVariables false
set_option linter.unusedSimpArgs false
open Go.Proofs.Ytfjfbapiheehaaa.Base
theorem lex_signs.is (c : Int) (w : World) : Calls Try.prog 89 #[.int .u8 c] w fun e w' => e = .returned (.int .i64 (LexSpec.sign c)) ∧ Drawn0 w w' := by
 refine lex_signs.calls c _ w ?_
 unfold lex_signs.f LexSpec.sign
 by_cases h1 : c = 61 <;> by_cases h2 : c = 124 <;> by_cases h3 : c = 59 <;> simp [*]
set_option maxHeartbeats 1600000 in
theorem lex_token.name_yes (s : ByteArray) (at_ : Int) (w : World) (hs : s.size ≤ 2000) (h0 : 0 < s.size) (hl : LexSpec.letter ((s[0]'h0).toNat : Int) = true) (n : Nat) (hn : LexSpec.run LexSpec.inner (bytesOf s) = n) (hi : LexSpec.isName ((bytesOf s).take n) = true) :
  Calls Try.prog 73 #[.string s, .int .i64 at_] w fun e w' => e = .returned (.tuple #[.agg #[.int .i64 1, .string (s.extract 0 n), .int .i64 at_], .int .i64 n]) ∧ Below w.heap.size w w' := by
 have hle : n ≤ s.size := by rw [← hn, ← bytesOf_length]; exact LexSpec.run_le _ _
 have HL := Aside0.mk hl
 have HN : ∀ W, Aside0 (Calls Try.prog 82 #[.string s, .func (.func 83) #[] #[]] W fun e w' => e = .returned (.int .i64 n) ∧ Drawn0 W w') := fun W => ⟨by
  have := lex_run.inner_ s W (by omega); rwa [hn] at this⟩
 have HI : ∀ W, Aside0 (Calls Try.prog 60 #[.string (s.extract 0 n)] W fun e w' => e = .returned (.bool true) ∧ Drawn0 W w') := fun W => ⟨by
  have hz : (s.extract 0 n).size ≤ 4611686018427387904 := by rw [size_extract _ _ _ hle]; omega
  have := lex_IsName.calls (s.extract 0 n) _ W (lex_IsName.of _ hz)
  rwa [bytesOf_head, hi] at this⟩
 clear hl hn hi
 go_enter Try.func73, Try.ntmps73
 go_wp2_with (first | (go_at_call 81; refine (lex_letter.is _ _).mono ?_; rintro e w' ⟨rfl, ⟨nd, rfl⟩⟩; rw [HL.out]) | (go_at_call 82; refine ((HN _).out).mono ?_; rintro e w' ⟨rfl, ⟨nd, rfl⟩⟩) | (go_at_call 60; refine ((HI _).out).mono ?_; rintro e w' ⟨rfl, ⟨nd, rfl⟩⟩))
 refine bodyPost_ret (v := .tuple #[.agg #[.int .i64 1, .string (s.extract 0 n), .int .i64 at_], .int .i64 n]) (by simp [results, Try.results73, go_sem]) rfl ⟨rfl, ?_⟩
 repeat (first | exact Below.refl _ _ | apply below_alloc | apply pw_below_drewN | apply below_drew1 | refine below_set ?_ (Nat.le_refl _))
set_option maxHeartbeats 1600000 in
theorem lex_token.name_no (s : ByteArray) (at_ : Int) (w : World) (hs : s.size ≤ 2000) (h0 : 0 < s.size) (hl : LexSpec.letter ((s[0]'h0).toNat : Int) = true) (n : Nat) (hn : LexSpec.run LexSpec.inner (bytesOf s) = n) (hi : LexSpec.isName ((bytesOf s).take n) = false) :
  Calls Try.prog 73 #[.string s, .int .i64 at_] w fun e w' => e = .panicked [{ v := .iface 99 (.agg #[.int .i64 at_]), recovered := false }] ∧ Below w.heap.size w w' := by
 have hle : n ≤ s.size := by rw [← hn, ← bytesOf_length]; exact LexSpec.run_le _ _
 have HL := Aside0.mk hl
 have HN : ∀ W, Aside0 (Calls Try.prog 82 #[.string s, .func (.func 83) #[] #[]] W fun e w' => e = .returned (.int .i64 n) ∧ Drawn0 W w') := fun W => ⟨by
  have := lex_run.inner_ s W (by omega); rwa [hn] at this⟩
 have HI : ∀ W, Aside0 (Calls Try.prog 60 #[.string (s.extract 0 n)] W fun e w' => e = .returned (.bool false) ∧ Drawn0 W w') := fun W => ⟨by
  have hz : (s.extract 0 n).size ≤ 4611686018427387904 := by rw [size_extract _ _ _ hle]; omega
  have := lex_IsName.calls (s.extract 0 n) _ W (lex_IsName.of _ hz)
  rwa [bytesOf_head, hi] at this⟩
 clear hl hn hi
 go_enter Try.func73, Try.ntmps73
 go_wp2_with (first | (go_at_call 81; refine (lex_letter.is _ _).mono ?_; rintro e w' ⟨rfl, ⟨nd, rfl⟩⟩; rw [HL.out]) | (go_at_call 82; refine ((HN _).out).mono ?_; rintro e w' ⟨rfl, ⟨nd, rfl⟩⟩) | (go_at_call 60; refine ((HI _).out).mono ?_; rintro e w' ⟨rfl, ⟨nd, rfl⟩⟩))
 exact ⟨rfl, rfl, by repeat (first | exact Below.refl _ _ | apply below_alloc | apply pw_below_drewN | apply below_drew1 | refine below_set ?_ (Nat.le_refl _))⟩
set_option maxHeartbeats 1600000 in
theorem lex_token.term_no (s : ByteArray) (at_ : Int) (w : World) (hs : s.size ≤ 2000) (h0 : 0 < s.size) (hl : LexSpec.letter ((s[0]'h0).toNat : Int) = false) (hq : (((s[0]'h0).toNat : Int) == 39) = true) (n : Nat) (hn : LexSpec.run LexSpec.inside ((bytesOf s).drop 1) = n) (hi : LexSpec.isTerm (((bytesOf s).drop 1).take n) = false) :
  Calls Try.prog 73 #[.string s, .int .i64 at_] w fun e w' => e = .panicked [{ v := .iface 99 (.agg #[.int .i64 at_]), recovered := false }] ∧ Below w.heap.size w w' := by
 have hle : n + 1 ≤ s.size := by
  have := LexSpec.run_le LexSpec.inside ((bytesOf s).drop 1)
  rw [hn, List.length_drop, bytesOf_length] at this; omega
 have HL := Aside0.mk hl
 have HN : ∀ W, Aside0 (Calls Try.prog 82 #[.string (s.extract 1 s.size), .func (.func 84) #[] #[]] W fun e w' => e = .returned (.int .i64 n) ∧ Drawn0 W w') := fun W => ⟨by
  have := lex_run.inside_ (s.extract 1 s.size) W (by rw [size_tail]; omega); rwa [bytesOf_tail, hn] at this⟩
 have HI : ∀ W, Aside0 (Calls Try.prog 61 #[.string (s.extract 1 (n + 1))] W fun e w' => e = .returned (.bool false) ∧ Drawn0 W w') := fun W => ⟨by
  have hz : (s.extract 1 (n + 1)).size ≤ 4611686018427387904 := by rw [size_extract _ _ _ hle]; omega
  have := lex_IsTerm.calls (s.extract 1 (n + 1)) _ W (lex_IsTerm.of _ hz)
  rwa [bytesOf_extract, show n + 1 - 1 = n from rfl, hi] at this⟩
 have hsl : ∀ w' : World, (Instr.slice 9 (.string s) (some (.int .i64 1)) (some (.int .i64 ((n : Int) + 1))) none).run Try.prog w' = .ok (.string (s.extract 1 (n + 1))) w' := fun w' => by
  have := run_slice_string (P := Try.prog) w' 9 s .i64 .i64 1 ((n : Int) + 1) Try.underlying9 (by omega) (by omega) (by omega)
  rwa [show ((n : Int) + 1).toNat = n + 1 from by omega] at this
 clear hl hn hi
 go_enter Try.func73, Try.ntmps73
 go_wp2_with (first | (go_at_call 81; refine (lex_letter.is _ _).mono ?_; rintro e w' ⟨rfl, ⟨nd, rfl⟩⟩; rw [HL.out]) | (go_at_call 82; refine ((HN _).out).mono ?_; rintro e w' ⟨rfl, ⟨nd, rfl⟩⟩) | (go_at_call 61; refine ((HI _).out).mono ?_; rintro e w' ⟨rfl, ⟨nd, rfl⟩⟩))
 exact ⟨rfl, rfl, by repeat (first | exact Below.refl _ _ | apply below_alloc | apply pw_below_drewN | apply below_drew1 | refine below_set ?_ (Nat.le_refl _))⟩
set_option maxHeartbeats 1600000 in
theorem lex_token.quote_end (s : ByteArray) (at_ : Int) (w : World) (hs : s.size ≤ 2000) (h0 : 0 < s.size) (hl : LexSpec.letter ((s[0]'h0).toNat : Int) = false) (hq : (((s[0]'h0).toNat : Int) == 39) = true) (n : Nat) (hn : LexSpec.run LexSpec.inside ((bytesOf s).drop 1) = n) (hi : LexSpec.isTerm (((bytesOf s).drop 1).take n) = true) (he : n + 1 = s.size) :
  Calls Try.prog 73 #[.string s, .int .i64 at_] w fun e w' => e = .panicked [{ v := .iface 99 (.agg #[.int .i64 at_]), recovered := false }] ∧ Below w.heap.size w w' := by
 have hle : n + 1 ≤ s.size := by
  have := LexSpec.run_le LexSpec.inside ((bytesOf s).drop 1)
  rw [hn, List.length_drop, bytesOf_length] at this; omega
 have HL := Aside0.mk hl
 have HN : ∀ W, Aside0 (Calls Try.prog 82 #[.string (s.extract 1 s.size), .func (.func 84) #[] #[]] W fun e w' => e = .returned (.int .i64 n) ∧ Drawn0 W w') := fun W => ⟨by
  have := lex_run.inside_ (s.extract 1 s.size) W (by rw [size_tail]; omega); rwa [bytesOf_tail, hn] at this⟩
 have HI : ∀ W, Aside0 (Calls Try.prog 61 #[.string (s.extract 1 (n + 1))] W fun e w' => e = .returned (.bool true) ∧ Drawn0 W w') := fun W => ⟨by
  have hz : (s.extract 1 (n + 1)).size ≤ 4611686018427387904 := by rw [size_extract _ _ _ hle]; omega
  have := lex_IsTerm.calls (s.extract 1 (n + 1)) _ W (lex_IsTerm.of _ hz)
  rwa [bytesOf_extract, show n + 1 - 1 = n from rfl, hi] at this⟩
 have hsl : ∀ w' : World, (Instr.slice 9 (.string s) (some (.int .i64 1)) (some (.int .i64 ((n : Int) + 1))) none).run Try.prog w' = .ok (.string (s.extract 1 (n + 1))) w' := fun w' => by
  have := run_slice_string (P := Try.prog) w' 9 s .i64 .i64 1 ((n : Int) + 1) Try.underlying9 (by omega) (by omega) (by omega)
  rwa [show ((n : Int) + 1).toNat = n + 1 from by omega] at this
 clear hl hn hi
 have k1 : ((n : Int) + 1 == (s.size : Int)) = true := by rw [beq_iff_eq]; omega
 have HE := Aside0.mk he
 clear he
 go_enter Try.func73, Try.ntmps73
 go_wp2_with (first | (go_at_call 81; refine (lex_letter.is _ _).mono ?_; rintro e w' ⟨rfl, ⟨nd, rfl⟩⟩; rw [HL.out]) | (go_at_call 82; refine ((HN _).out).mono ?_; rintro e w' ⟨rfl, ⟨nd, rfl⟩⟩) | (go_at_call 61; refine ((HI _).out).mono ?_; rintro e w' ⟨rfl, ⟨nd, rfl⟩⟩))
 exact ⟨rfl, rfl, by repeat (first | exact Below.refl _ _ | apply below_alloc | apply pw_below_drewN | apply below_drew1 | refine below_set ?_ (Nat.le_refl _))⟩
set_option maxHeartbeats 1600000 in
theorem lex_token.quote_no (s : ByteArray) (at_ : Int) (w : World) (hs : s.size ≤ 2000) (h0 : 0 < s.size) (hl : LexSpec.letter ((s[0]'h0).toNat : Int) = false) (hq : (((s[0]'h0).toNat : Int) == 39) = true) (n : Nat) (hn : LexSpec.run LexSpec.inside ((bytesOf s).drop 1) = n) (hi : LexSpec.isTerm (((bytesOf s).drop 1).take n) = true) (he : n + 1 < s.size) (hb : (((s[n + 1]'he).toNat : Int) == 39) = false) :
  Calls Try.prog 73 #[.string s, .int .i64 at_] w fun e w' => e = .panicked [{ v := .iface 99 (.agg #[.int .i64 at_]), recovered := false }] ∧ Below w.heap.size w w' := by
 have hle : n + 1 ≤ s.size := by
  have := LexSpec.run_le LexSpec.inside ((bytesOf s).drop 1)
  rw [hn, List.length_drop, bytesOf_length] at this; omega
 have HL := Aside0.mk hl
 have HN : ∀ W, Aside0 (Calls Try.prog 82 #[.string (s.extract 1 s.size), .func (.func 84) #[] #[]] W fun e w' => e = .returned (.int .i64 n) ∧ Drawn0 W w') := fun W => ⟨by
  have := lex_run.inside_ (s.extract 1 s.size) W (by rw [size_tail]; omega); rwa [bytesOf_tail, hn] at this⟩
 have HI : ∀ W, Aside0 (Calls Try.prog 61 #[.string (s.extract 1 (n + 1))] W fun e w' => e = .returned (.bool true) ∧ Drawn0 W w') := fun W => ⟨by
  have hz : (s.extract 1 (n + 1)).size ≤ 4611686018427387904 := by rw [size_extract _ _ _ hle]; omega
  have := lex_IsTerm.calls (s.extract 1 (n + 1)) _ W (lex_IsTerm.of _ hz)
  rwa [bytesOf_extract, show n + 1 - 1 = n from rfl, hi] at this⟩
 have hsl : ∀ w' : World, (Instr.slice 9 (.string s) (some (.int .i64 1)) (some (.int .i64 ((n : Int) + 1))) none).run Try.prog w' = .ok (.string (s.extract 1 (n + 1))) w' := fun w' => by
  have := run_slice_string (P := Try.prog) w' 9 s .i64 .i64 1 ((n : Int) + 1) Try.underlying9 (by omega) (by omega) (by omega)
  rwa [show ((n : Int) + 1).toNat = n + 1 from by omega] at this
 clear hl hn hi
 have k1 : ((n : Int) + 1 == (s.size : Int)) = false := by rw [beq_eq_false_iff_ne]; omega
 have k2 : (((s[n + 1]'he).toNat : Int) != 39) = true := by rw [bne, hb]; rfl
 clear hb
 go_enter Try.func73, Try.ntmps73
 go_wp2_with (first | (go_at_call 81; refine (lex_letter.is _ _).mono ?_; rintro e w' ⟨rfl, ⟨nd, rfl⟩⟩; rw [HL.out]) | (go_at_call 82; refine ((HN _).out).mono ?_; rintro e w' ⟨rfl, ⟨nd, rfl⟩⟩) | (go_at_call 61; refine ((HI _).out).mono ?_; rintro e w' ⟨rfl, ⟨nd, rfl⟩⟩))
 exact ⟨rfl, rfl, by repeat (first | exact Below.refl _ _ | apply below_alloc | apply pw_below_drewN | apply below_drew1 | refine below_set ?_ (Nat.le_refl _))⟩
set_option maxHeartbeats 1600000 in
theorem lex_token.quote_yes (s : ByteArray) (at_ : Int) (w : World) (hs : s.size ≤ 2000) (h0 : 0 < s.size) (hl : LexSpec.letter ((s[0]'h0).toNat : Int) = false) (hq : (((s[0]'h0).toNat : Int) == 39) = true) (n : Nat) (hn : LexSpec.run LexSpec.inside ((bytesOf s).drop 1) = n) (hi : LexSpec.isTerm (((bytesOf s).drop 1).take n) = true) (he : n + 1 < s.size) (hb : (((s[n + 1]'he).toNat : Int) == 39) = true) :
  Calls Try.prog 73 #[.string s, .int .i64 at_] w fun e w' => e = .returned (.tuple #[.agg #[.int .i64 2, .string (s.extract 1 (n + 1)), .int .i64 at_], .int .i64 (n + 2 : Nat)]) ∧ Below w.heap.size w w' := by
 have hle : n + 1 ≤ s.size := by
  have := LexSpec.run_le LexSpec.inside ((bytesOf s).drop 1)
  rw [hn, List.length_drop, bytesOf_length] at this; omega
 have HL := Aside0.mk hl
 have HN : ∀ W, Aside0 (Calls Try.prog 82 #[.string (s.extract 1 s.size), .func (.func 84) #[] #[]] W fun e w' => e = .returned (.int .i64 n) ∧ Drawn0 W w') := fun W => ⟨by
  have := lex_run.inside_ (s.extract 1 s.size) W (by rw [size_tail]; omega); rwa [bytesOf_tail, hn] at this⟩
 have HI : ∀ W, Aside0 (Calls Try.prog 61 #[.string (s.extract 1 (n + 1))] W fun e w' => e = .returned (.bool true) ∧ Drawn0 W w') := fun W => ⟨by
  have hz : (s.extract 1 (n + 1)).size ≤ 4611686018427387904 := by rw [size_extract _ _ _ hle]; omega
  have := lex_IsTerm.calls (s.extract 1 (n + 1)) _ W (lex_IsTerm.of _ hz)
  rwa [bytesOf_extract, show n + 1 - 1 = n from rfl, hi] at this⟩
 have hsl : ∀ w' : World, (Instr.slice 9 (.string s) (some (.int .i64 1)) (some (.int .i64 ((n : Int) + 1))) none).run Try.prog w' = .ok (.string (s.extract 1 (n + 1))) w' := fun w' => by
  have := run_slice_string (P := Try.prog) w' 9 s .i64 .i64 1 ((n : Int) + 1) Try.underlying9 (by omega) (by omega) (by omega)
  rwa [show ((n : Int) + 1).toNat = n + 1 from by omega] at this
 clear hl hn hi
 have k1 : ((n : Int) + 1 == (s.size : Int)) = false := by rw [beq_eq_false_iff_ne]; omega
 have k2 : (((s[n + 1]'he).toNat : Int) != 39) = false := by rw [bne, hb]; rfl
 clear hb
 go_enter Try.func73, Try.ntmps73
 go_wp2_with (first | (go_at_call 81; refine (lex_letter.is _ _).mono ?_; rintro e w' ⟨rfl, ⟨nd, rfl⟩⟩; rw [HL.out]) | (go_at_call 82; refine ((HN _).out).mono ?_; rintro e w' ⟨rfl, ⟨nd, rfl⟩⟩) | (go_at_call 61; refine ((HI _).out).mono ?_; rintro e w' ⟨rfl, ⟨nd, rfl⟩⟩))
 refine bodyPost_ret (v := .tuple #[.agg #[.int .i64 2, .string (s.extract 1 (n + 1)), .int .i64 at_], .int .i64 (n + 2 : Nat)]) (by simp [results, Try.results73, go_sem]) rfl ⟨rfl, ?_⟩
 repeat (first | exact Below.refl _ _ | apply below_alloc | apply pw_below_drewN | apply below_drew1 | refine below_set ?_ (Nat.le_refl _))
set_option maxHeartbeats 1600000 in
theorem lex_token.sign_no (s : ByteArray) (at_ : Int) (w : World) (hs : s.size ≤ 2000) (h0 : 0 < s.size) (hl : LexSpec.letter ((s[0]'h0).toNat : Int) = false) (hq : (((s[0]'h0).toNat : Int) == 39) = false) (g : Int) (hg : LexSpec.sign ((s[0]'h0).toNat : Int) = g) (hz : g = 0) :
  Calls Try.prog 73 #[.string s, .int .i64 at_] w fun e w' => e = .panicked [{ v := .iface 99 (.agg #[.int .i64 at_]), recovered := false }] ∧ Below w.heap.size w w' := by
 have HL := Aside0.mk hl
 have HG : ∀ W, Aside0 (Calls Try.prog 89 #[.int .u8 ((s[0]'h0).toNat : Int)] W fun e w' => e = .returned (.int .i64 g) ∧ Drawn0 W w') := fun W => ⟨by
  have := lex_signs.is ((s[0]'h0).toNat : Int) W; rwa [hg] at this⟩
 clear hl hg
 have k1 : (g != 0) = false := by simp [hz]
 clear hz
 go_enter Try.func73, Try.ntmps73
 go_wp2_with (first | (go_at_call 81; refine (lex_letter.is _ _).mono ?_; rintro e w' ⟨rfl, ⟨nd, rfl⟩⟩; rw [HL.out]) | (go_at_call 89; refine ((HG _).out).mono ?_; rintro e w' ⟨rfl, ⟨nd, rfl⟩⟩))
 exact ⟨rfl, rfl, by repeat (first | exact Below.refl _ _ | apply below_alloc | apply pw_below_drewN | apply below_drew1 | refine below_set ?_ (Nat.le_refl _))⟩
set_option maxHeartbeats 1600000 in
theorem lex_token.sign_yes (s : ByteArray) (at_ : Int) (w : World) (hs : s.size ≤ 2000) (h0 : 0 < s.size) (hl : LexSpec.letter ((s[0]'h0).toNat : Int) = false) (hq : (((s[0]'h0).toNat : Int) == 39) = false) (g : Int) (hg : LexSpec.sign ((s[0]'h0).toNat : Int) = g) (hz : g ≠ 0) :
  Calls Try.prog 73 #[.string s, .int .i64 at_] w fun e w' => e = .returned (.tuple #[.agg #[.int .i64 g, .string (s.extract 0 1), .int .i64 at_], .int .i64 1]) ∧ Below w.heap.size w w' := by
 have HL := Aside0.mk hl
 have HG : ∀ W, Aside0 (Calls Try.prog 89 #[.int .u8 ((s[0]'h0).toNat : Int)] W fun e w' => e = .returned (.int .i64 g) ∧ Drawn0 W w') := fun W => ⟨by
  have := lex_signs.is ((s[0]'h0).toNat : Int) W; rwa [hg] at this⟩
 clear hl hg
 have k1 : (g != 0) = true := by simp [hz]
 clear hz
 go_enter Try.func73, Try.ntmps73
 go_wp2_with (first | (go_at_call 81; refine (lex_letter.is _ _).mono ?_; rintro e w' ⟨rfl, ⟨nd, rfl⟩⟩; rw [HL.out]) | (go_at_call 89; refine ((HG _).out).mono ?_; rintro e w' ⟨rfl, ⟨nd, rfl⟩⟩))
 go_region_with (first | (go_at_call 89; refine ((HG _).out).mono ?_; rintro e w' ⟨rfl, ⟨nd, rfl⟩⟩))
 all_goals
  go_wp2
  refine bodyPost_ret (v := .tuple #[.agg #[.int .i64 g, .string (s.extract 0 1), .int .i64 at_], .int .i64 1]) (by simp [results, Try.results73, go_sem]) rfl ⟨rfl, ?_⟩
  repeat (first | exact Below.refl _ _ | apply below_alloc | apply pw_below_drewN | apply below_drew1 | refine below_set ?_ (Nat.le_refl _))
theorem bytesOf_cons (s : ByteArray) (h0 : 0 < s.size) : bytesOf s = ((s[0]'h0).toNat : Int) :: (bytesOf s).drop 1 := by simpa using drop_cons s 0 h0
theorem lex_token.any (s : ByteArray) (at_ : Int) (w : World) (hs : s.size ≤ 2000) (h0 : 0 < s.size) :
  match LexSpec.token (bytesOf s) with
  | some (kd, a, b, n) => Calls Try.prog 73 #[.string s, .int .i64 at_] w fun e w' => e = .returned (.tuple #[.agg #[.int .i64 kd, .string (s.extract a b), .int .i64 at_], .int .i64 n]) ∧ Below w.heap.size w w'
  | none => Calls Try.prog 73 #[.string s, .int .i64 at_] w fun e w' => e = .panicked [{ v := .iface 99 (.agg #[.int .i64 at_]), recovered := false }] ∧ Below w.heap.size w w' := by
 have e := bytesOf_cons s h0
 rw [e]
 simp only [LexSpec.token]
 rw [← e]
 by_cases hl : LexSpec.letter ((s[0]'h0).toNat : Int) = true
 ·rw [if_pos hl]
  cases hi : LexSpec.isName ((bytesOf s).take (LexSpec.run LexSpec.inner (bytesOf s)))
  ·simp only [Bool.false_eq_true, if_false]
   exact lex_token.name_no s at_ w hs h0 hl _ rfl hi
  ·simp only [if_true]
   exact lex_token.name_yes s at_ w hs h0 hl _ rfl hi
 ·rw [if_neg hl]
  replace hl := Bool.eq_false_iff.mpr hl
  by_cases hq : (((s[0]'h0).toNat : Int) == 39) = true
  ·rw [if_pos hq]
   have hr := LexSpec.run_le LexSpec.inside ((bytesOf s).drop 1)
   have hlen : ((bytesOf s).drop 1).length = s.size - 1 := by rw [List.length_drop, bytesOf_length]
   generalize hn : LexSpec.run LexSpec.inside ((bytesOf s).drop 1) = n at *
   cases hi : LexSpec.isTerm (((bytesOf s).drop 1).take n)
   ·simp only [Bool.false_and, Bool.false_eq_true, if_false]
    exact lex_token.term_no s at_ w hs h0 hl hq n hn hi
   ·simp only [Bool.true_and]
    rw [hlen] at hr ⊢
    by_cases he : n + 1 = s.size
    ·rw [decide_eq_false (by omega)]
     simp only [Bool.false_and, Bool.false_eq_true, if_false]
     exact lex_token.quote_end s at_ w hs h0 hl hq n hn hi he
    ·have he' : n + 1 < s.size := by omega
     rw [decide_eq_true (by omega)]
     simp only [Bool.true_and]
     have eg : ((bytesOf s).drop 1).getD n 0 = ((s[n + 1]'he').toNat : Int) := by
      rw [← bytesOf_getD s (n + 1) he', List.getD_eq_getElem?_getD, List.getD_eq_getElem?_getD, List.getElem?_drop, Nat.add_comm]
     rw [eg]
     cases hb : (((s[n + 1]'he').toNat : Int) == 39)
     ·simp only [Bool.false_eq_true, if_false]
      exact lex_token.quote_no s at_ w hs h0 hl hq n hn hi he' hb
     ·simp only [if_true]
      exact lex_token.quote_yes s at_ w hs h0 hl hq n hn hi he' hb
  ·rw [if_neg hq]
   replace hq := Bool.eq_false_iff.mpr hq
   by_cases hz : LexSpec.sign ((s[0]'h0).toNat : Int) = 0
   ·rw [if_neg (by simp [hz])]
    exact lex_token.sign_no s at_ w hs h0 hl hq _ rfl hz
   ·rw [if_pos (by simp [hz])]
    exact lex_token.sign_yes s at_ w hs h0 hl hq _ rfl hz
theorem lex_token.some_ (s : ByteArray) (at_ : Int) (w : World) (hs : s.size ≤ 2000) (h0 : 0 < s.size) (kd : Int) (a b n : Nat) (h : LexSpec.token (bytesOf s) = some (kd, a, b, n)) :
  Calls Try.prog 73 #[.string s, .int .i64 at_] w fun e w' => e = .returned (.tuple #[.agg #[.int .i64 kd, .string (s.extract a b), .int .i64 at_], .int .i64 n]) ∧ Below w.heap.size w w' := by
 have := lex_token.any s at_ w hs h0
 rwa [h] at this
theorem lex_token.none_ (s : ByteArray) (at_ : Int) (w : World) (hs : s.size ≤ 2000) (h0 : 0 < s.size) (h : LexSpec.token (bytesOf s) = none) :
  Calls Try.prog 73 #[.string s, .int .i64 at_] w fun e w' => e = .panicked [{ v := .iface 99 (.agg #[.int .i64 at_]), recovered := false }] ∧ Below w.heap.size w w' := by
 have := lex_token.any s at_ w hs h0
 rwa [h] at this
end Go.Proofs.Ytfjfbapiheehaaa.P
end
section
namespace Go.Proofs.Ytfjfbapiheehaaa.P
open Go.RowKit Go.Proofs.YtfjfbapiheehaaaW.PrintWords Go.Proofs.YtfjfbapiheehaaaW.PrintLast Go.Proofs.YtfjfbapiheehaaaW.PrintMore
attribute [local go_sem] max2_int min2_int max_two min_two max_three min_three max_four min_four   -- for this text's walks alone
set_option linter.unusedVariables false
set_option linter.unusedSimpArgs false
open Go.Proofs.Ytfjfbapiheehaaa.Base
theorem lex_Tokens1.idle (pl pf : Addr) (w : World) :
  CallsD Try.prog 71 #[.pointer (some pl), .pointer (some pf)] .returning w fun e u' w' => e = .returned (.tuple #[]) ∧ u' = .returning ∧ w' = w := by
 refine callsD_of_wpS Try.func71 rfl fun c₀ cs hu => ?_
 apply wpS_seq
 apply wpS_region
 simp [wpOpsS, go_sem, recoverD, hu, Try.ntmps71, Exit.thenS]
 apply wpS_seq
 apply wpS_region
 simp [wpOpsS, go_sem, Exit.thenS]
 refine wpS_cond (t := false) (by simp [Act.eval, Array.replicate]) ?_
 simp only [Bool.false_eq_true, if_false]
 refine wpS_of_wp (wp_skip ?_)
 cases c₀
 simp_all [bodyPostS, results, Try.results71]
theorem assert_wrong (x : Value) (w : World) : (Instr.typeAssert (.iface 99 x) 20 99 true).run Try.prog w = .ok (.tuple #[x, .bool true]) w := by kernel_rfl
def Goes (R : Act → World → Prop) : Exit → Act → World → Prop
 | .normal, a, w => R a w
 | _, _, _ => False
def CatchEnd (gl gf : Nat) (at_ : Int) (w0 : World) (w' : World) : Prop :=
 w'.heap[gl]? = some (.cells #[.slice none 0 0] 74 (0, 0)) ∧ w'.heap[gf]? = some (.cells #[.int .i64 11, .int .i64 at_] 53 (0, 0))
set_option maxHeartbeats 1000000 in
theorem lex_Tokens1.caught (gl gf : Nat) (at_ : Int) (u : Value) (older : List PanicEntry) (w0 w : World) (hl : w.heap[gl]? = some (.cells #[u] 74 (0, 0))) (hf : w.heap[gf]? = some (.cells #[.int .i64 0, .int .i64 0] 53 (0, 0)))
  (h1 : w0.heap.size ≤ gl) (h2 : w0.heap.size ≤ gf) (HB : Below w0.heap.size w0 w) :
  CallsD Try.prog 71 #[.pointer (some ⟨gl, 0, none⟩), .pointer (some ⟨gf, 0, none⟩)] (.panicking ({ v := .iface 99 (.agg #[.int .i64 at_]), recovered := false } :: older)) w fun e u' w' =>
   e = .returned (.tuple #[]) ∧ u' = .panicking ({ v := .iface 99 (.agg #[.int .i64 at_]), recovered := true } :: older) ∧ CatchEnd gl gf at_ w0 w' ∧ Below w0.heap.size w0 w' := by
 have hne : gl ≠ gf := blk_ne hl hf (by decide)
 have c0 : w.cell? ⟨gl, 0, none⟩ = some u := (blk_cell hl 0).trans rfl
 have c1 : w.cell? ⟨gf, 0, none⟩ = some (.int .i64 0) := (blk_cell hf 0).trans rfl
 have c2 : w.cell? ⟨gf, 1, none⟩ = some (.int .i64 0) := (blk_cell hf 1).trans rfl
 have f0 := blk_frozen hl 0
 have f1 := blk_frozen hf 0
 have f2 := blk_frozen hf 1
 have ll := blk_lt hl
 have lf := blk_lt hf
 have HL := Aside0.mk hl
 have HF := Aside0.mk hf
 clear hl hf
 refine callsD_of_wpS Try.func71 rfl fun c₀ cs hu => ?_
 simp only [Try.ntmps71, List.size_toArray, List.length_cons, List.length_nil, Nat.reduceAdd, Nat.reduceSub, Array.replicate_succ, Array.replicate_zero, List.push_toArray, List.append_toArray, List.nil_append, List.cons_append]
 apply wpS_seq
 apply wpS_region
 simp [wpOpsS, go_sem, recoverD, hu, Exit.thenS]
 refine wpS_of_wp (wp_mono (Q := Goes fun a' w' => a'.defers = [] ∧ CatchEnd gl gf at_ w0 w' ∧ Below w0.heap.size w0 w') ?_ ?_)
 ·clear hu
  have hta := fun W => assert_wrong (.agg #[.int .i64 at_]) W
  go_wp2
  go_region
  all_goals
   refine ⟨rfl, ⟨?_, ?_⟩, ?_⟩
   ·with_reducible repeat (first | exact HL.out | (refine blk_drew ?_) | (refine blk_drewN ?_ _) | (refine blk_alloc ?_ _))
    refine blk_far ?_ hne _
    refine blk_far ?_ hne _
    exact blk_put HL.out 0 _ rfl
   ·with_reducible repeat (first | exact HF.out | (refine blk_drew ?_) | (refine blk_drewN ?_ _) | (refine blk_alloc ?_ _))
    refine blk_put (cs := #[.int .i64 11, .int .i64 0]) ?_ 1 _ rfl
    refine blk_put (cs := #[.int .i64 0, .int .i64 0]) ?_ 0 _ rfl
    exact blk_far HF.out (Ne.symm hne) _
   ·with_reducible repeat (first | exact HB | apply below_alloc | apply pw_below_drewN | apply below_drew1 | (refine below_set ?_ h1) | (refine below_set ?_ h2))
 ·intro e a' w' h
  cases e <;> simp only [Goes] at h
  obtain ⟨hd, hc, hb⟩ := h
  cases c₀
  simp_all [bodyPostS, results, Try.results71]
def tok (t : Int × ByteArray × Int) : S82 := ⟨t.1, t.2.1, t.2.2⟩
def lex_Tokens.f (a0 : ByteArray) : Option (List S82 × Int × Int) :=
 if 2000 < a0.size then some ([], 14, 0) else
 match LexSpec.tokens a0 with
 | .ok l => some (l.map tok, 0, 0)
 | .error i => some ([], 11, (i : Int))
def TokensPost (w0 : World) (r1 : List S82) (r2 r3 : Int) (e : Ending) (w' : World) : Prop :=
 ∃ v0_ : Value, e = .returned (.tuple #[v0_, .agg #[.int .i64 r2, .int .i64 r3]]) ∧ Kd.R k82 82 w' w0.heap.size (fun _ => True) v0_ r1 ∧ Below w0.heap.size w0 w'
set_option maxHeartbeats 1600000 in
theorem lex_Tokens.long (a0 : ByteArray) (w : World) (h : 2000 < a0.size) :
  Calls Try.prog 53 #[.string a0] w (TokensPost w [] 14 0) := by
 have hmf : ∀ (fn : Fn) (first cap : Array Value) (w : World), (Instr.makeFunc fn first cap).run Try.prog w = .ok (.func fn first cap) w := fun _ _ _ _ => rfl
 have b0 : decide (2000 < (a0.size : Int)) = true := decide_eq_true (by omega)
 have b1 : decide (2000 < a0.size) = true := decide_eq_true (by omega)
 clear h
 go_enter_defers Try.func53, Try.ntmps53
 go_wp2
 refine ⟨.tuple #[.slice none 0 0, .agg #[.int .i64 14, .int .i64 0]], by simp [results, Try.results53, go_sem], ⟨_, rfl, Kd.R_nil _ _ _ _ _, ?_⟩⟩
 with_reducible repeat (first | exact Below.refl _ _ | apply below_alloc | apply pw_below_drewN | apply below_drew1)
theorem R_two {W W' : World} {base gl gf : Nat} {v : Value} {xs : List S82} {cs1 cs2 : Array Value} {t1 t2 : Nat} (h : Kd.R k82 82 W base (fun _ => True) v xs) (b1 : W.heap[gl]? = some (.cells cs1 t1 (0, 0))) (b2 : W.heap[gf]? = some (.cells cs2 t2 (0, 0))) (h1 : 82 ≠ t1) (h2 : 82 ≠ t2)
  (hm : ∀ b, b ≠ gl → b ≠ gf → b < W.heap.size → W'.heap[b]? = W.heap[b]?) : Kd.R k82 82 W' base (fun _ => True) v xs :=
 Kd.R_mono (Kd.R_step (Kd.R_types (Kd.R_types h b1 (fun q hq => by have : q = 82 := List.mem_singleton.1 hq; omega)) b2 (fun q hq => by have : q = 82 := List.mem_singleton.1 hq; omega)) (fun k hk hl => hm k hk.1.2 hk.2 hl)) (fun _ _ => trivial)
theorem set3 (W : World) (gl gf : Nat) (u x y : Value) (b : Nat) (h1 : b ≠ gl) (h2 : b ≠ gf) : (((W.setCell ⟨gl, 0, none⟩ u).setCell ⟨gf, 0, none⟩ x).setCell ⟨gf, 1, none⟩ y).heap[b]? = W.heap[b]? := by
 rw [Below.heap_setCell _ _ _ _ h2, Below.heap_setCell _ _ _ _ h2, Below.heap_setCell _ _ _ _ h1]
def TokensEnd (w0 : World) (r : Except Nat (List (Int × ByteArray × Int))) : Ending → World → Prop :=
 match r with
 | .ok l => TokensPost w0 (l.map tok) 0 0
 | .error i => TokensPost w0 [] 11 (i : Int)
set_option maxHeartbeats 3200000 in
theorem lex_Tokens.main (a0 : ByteArray) (w : World) (hs : a0.size ≤ 2000) (r : Except Nat (List (Int × ByteArray × Int))) (hr : LexSpec.tokens a0 = r) :
  Calls Try.prog 53 #[.string a0] w (TokensEnd w r) := by
 have hmf : ∀ (fn : Fn) (first cap : Array Value) (w : World), (Instr.makeFunc fn first cap).run Try.prog w = .ok (.func fn first cap) w := fun _ _ _ _ => rfl
 have b0 : decide (2000 < (a0.size : Int)) = false := decide_eq_false (by omega)
 have b1 : decide (2000 < a0.size) = false := decide_eq_false (by omega)
 have HR := Aside0.mk hr
 clear hr
 go_enter_defers Try.func53, Try.ntmps53
 go_wp2_with (first | (go_at_call 72; refine (lex_skipped.calls a0 _ _ (lex_skipped.of a0 (by omega))).mono ?_; rintro e w' ⟨rfl, ⟨nd, rfl⟩⟩))
 go_loopw [4] (fun v4 w' => ∃ (i k : Nat) (acc : List (Int × ByteArray × Int)) (u : Value), v4 = .int .i64 (i : Int) ∧ i ≤ a0.size ∧ Aside0 (a0.size - i < k) ∧ Aside0 (LexSpec.joined acc (LexSpec.toks a0 k i) = r) ∧ Aside0 (acc.length ≤ i) ∧ Aside0 (Kd.R k82 82 w' w.heap.size (fun _ => True) u (acc.map tok)) ∧ Aside0 (w'.heap[w.heap.size]? = some (.cells #[u] 74 (0, 0))) ∧ Aside0 (w'.heap[w.heap.size + 1]? = some (.cells #[.int .i64 0, .int .i64 0] 53 (0, 0))) ∧ Aside0 (Below w.heap.size w w')) (fun v4 _ => a0.size - (intOf v4).toNat)
 case atStart =>
  have hle := LexSpec.skip_le false (bytesOf a0)
  rw [bytesOf_length] at hle
  refine ⟨_, a0.size + 1, [], .slice none 0 0, rfl, hle, ⟨by omega⟩, ⟨?_⟩, ⟨by simp⟩, ⟨Kd.R_nil _ _ _ _ _⟩, ⟨?_⟩, ⟨?_⟩, ⟨?_⟩⟩
  ·have := HR.out; unfold LexSpec.tokens at this; rw [this]; cases r <;> simp [LexSpec.joined]
  ·exact blk_drewN (blk_alloc (blk_new _ _) _) _
  ·have := blk_new (w.alloc (.cells #[.slice none 0 0] 74 (0, 0))) (.cells #[.int .i64 0, .int .i64 0] 53 (0, 0))
   simp at this ⊢
   exact this
  ·with_reducible repeat (first | exact Below.refl _ _ | apply below_alloc | apply pw_below_drewN | apply below_drew1)
 case round =>
  obtain ⟨i, k, acc, u, rfl, hi, HK, HJ, HAL, HO, BL, BF, HB⟩ := hrel
  obtain ⟨k, rfl⟩ : ∃ m, k = m + 1 := ⟨k - 1, by have := HK.out; omega⟩
  by_cases hlt : i < a0.size
  ·cases ht : LexSpec.token ((bytesOf a0).drop i) with
   | none =>
    have hrr : LexSpec.joined acc (LexSpec.toks a0 (k + 1) i) = .error i := by simp only [LexSpec.toks, if_pos hlt, ht, LexSpec.joined]
    rw [HJ.out] at hrr
    subst hrr
    have k1 : decide ((i : Int) < (a0.size : Int)) = true := decide_eq_true (by omega)
    have k2 : decide (i < a0.size) = true := decide_eq_true (by omega)
    have HT : ∀ W, Aside0 (Calls Try.prog 73 #[.string (a0.extract i a0.size), .int .i64 (i : Int)] W fun e w' => e = .panicked [{ v := .iface 99 (.agg #[.int .i64 (i : Int)]), recovered := false }] ∧ Below W.heap.size W w') := fun W => ⟨by
     refine lex_token.none_ _ _ W (by rw [size_tail]; omega) (by rw [size_tail]; omega) ?_
     rwa [bytesOf_tail]⟩
    clear ht
    go_wp2_with (first | (go_at_call 73; refine ((HT _).out).mono ?_; rintro e w3 ⟨rfl, hb3⟩))
    have hl3 := blk_below BL.out hb3
    have hf3 := blk_below BF.out hb3
    refine leaves_cons (f := 71) (args := #[.pointer (some ⟨w.heap.size, 0, none⟩), .pointer (some ⟨w.heap.size + 1, 0, none⟩)]) (by simp) (by simp [go_sem]) ?_
    refine (lex_Tokens1.caught w.heap.size (w.heap.size + 1) (i : Int) u [] w _ hl3 hf3 (Nat.le_refl _) (Nat.le_succ _) (below_step HB.out hb3)).mono ?_
    rintro e u' w4 ⟨rfl, rfl, ⟨hc1, hc2⟩, hb4⟩
    have c0 : w4.cell? ⟨w.heap.size, 0, none⟩ = some (.slice none 0 0) := (blk_cell hc1 0).trans rfl
    have c1 : w4.cell? ⟨w.heap.size + 1, 0, none⟩ = some (.int .i64 11) := (blk_cell hc2 0).trans rfl
    have c2 : w4.cell? ⟨w.heap.size + 1, 1, none⟩ = some (.int .i64 (i : Int)) := (blk_cell hc2 1).trans rfl
    refine ⟨.tuple #[.slice none 0 0, .agg #[.int .i64 11, .int .i64 (i : Int)]], by simp [results, Try.results53, go_sem, c0, c1, c2], ⟨_, rfl, Kd.R_nil _ _ _ _ _, hb4⟩⟩
   | some q =>
    obtain ⟨kd, a, b, n⟩ := q
    have hts := LexSpec.token_some _ _ _ _ _ ht
    rw [List.length_drop, bytesOf_length] at hts
    have hst := LexSpec.joined_step a0 k i acc kd a b n hlt ht
    have k1 : decide ((i : Int) < (a0.size : Int)) = true := decide_eq_true (by omega)
    have k2 : decide (i < a0.size) = true := decide_eq_true (by omega)
    have hn1 : 1 ≤ n := hts.1
    have hn2 : i + n ≤ a0.size := by omega
    have HT : ∀ W, Aside0 (Calls Try.prog 73 #[.string (a0.extract i a0.size), .int .i64 (i : Int)] W fun e w' => e = .returned (.tuple #[.agg #[.int .i64 kd, .string (a0.extract (i + a) (i + b)), .int .i64 (i : Int)], .int .i64 n]) ∧ Below W.heap.size W w') := fun W => ⟨by
     have := lex_token.some_ (a0.extract i a0.size) (i : Int) W (by rw [size_tail]; omega) (by rw [size_tail]; omega) kd a b n (by rwa [bytesOf_tail])
     rwa [extract_extract a0 i a b (by omega) (by omega)] at this⟩
    have hsk := LexSpec.skip_le false ((bytesOf a0).drop (i + n))
    rw [List.length_drop, bytesOf_length] at hsk
    have HS : ∀ W, Aside0 (Calls Try.prog 72 #[.string (a0.extract (i + n) a0.size)] W fun e w' => e = .returned (.int .i64 (LexSpec.skip false ((bytesOf a0).drop (i + n)) : Int)) ∧ Drawn0 W w') := fun W => ⟨by
     have := lex_skipped.calls (a0.extract (i + n) a0.size) _ W (lex_skipped.of _ (by rw [size_tail]; omega))
     rwa [bytesOf_tail] at this⟩
    generalize hm : LexSpec.skip false ((bytesOf a0).drop (i + n)) = m at *
    rw [HJ.out] at hst
    have HST := Aside0.mk hst
    clear ht hst hts hm
    have hal : (acc.map tok).length ≤ 2000 := by rw [List.length_map]; have := HAL.out; omega
    have HAC := Aside0.mk hal
    clear hal
    have hgb : w.heap.size ≤ wr.heap.size := below_size HB.out
    go_wp2_with (first
     | (go_at_call 73; refine ((HT _).out).mono ?_; rintro e w3 ⟨rfl, hb3⟩; have BL3 := Aside0.mk (blk_below BL.out hb3); have BF3 := Aside0.mk (blk_below BF.out hb3); have HO3 := Aside0.mk (Kd.R_below HO.out hb3); have HB3 := Aside0.mk (below_step HB.out hb3); have c0 : w3.cell? ⟨w.heap.size, 0, none⟩ = some u := (blk_cell BL3.out 0).trans rfl; have f0 := blk_frozen BL3.out 0; have ll := blk_lt BL3.out; have hg3 : w.heap.size ≤ w3.heap.size := below_size HB3.out; clear hb3)
     | ((with_reducible refine gate_builtin (b := .append) (xs := #[.tmp 32, .tmp 34]) rfl ?_); at_builtin; (refine Kd.R_append k82 (w0 := w) w.heap.size rfl (.tmp 32) (.tmp 34) 74 82 (.agg #[(.int .i64 0), (.string ⟨#[]⟩), (.int .i64 0)]) 32 rfl Try.underlying74 info82 rfl (by decide) (by omega) u (acc.map tok) (tok (kd, a0.extract (i + a) (i + b), (i : Int))) [.int .i64 kd, .string (a0.extract (i + a) (i + b)), .int .i64 (i : Int)] (fun _ => True) (fun _ => False) rfl ?aX ?aP (fun _ hk => hk.elim) ?aF ?aO ?aB ?aS ?aL ?_); (case aX => simp [Act.eval]); (case aP => exact k82_mkM _ _ _ (tok (kd, a0.extract (i + a) (i + b), (i : Int)))); (case aF => exact (fun _ _ => trivial)); (case aO => exact Kd.R_alloc HO3.out _); (case aB => exact below_alloc HB3.out _); (case aS => exact (by simp; omega)); (case aL => have := HAC.out; omega); intro v1 w5 ho hb hg hat; have BL5 := Aside0.mk (blk_grown (blk_alloc BL3.out _) hg (Kd.R_ne HO3.out BL3.out (by decide))); have BF5 := Aside0.mk (blk_grown (blk_alloc BF3.out _) hg (Kd.R_ne HO3.out BF3.out (by decide))); have HO5 := Aside0.mk ho; have HB5 := Aside0.mk hb; clear ho hb hg hat; obtain ⟨Ao, co, eo⟩ := Kd.R_slice HO5.out; subst eo; have c5 : w5.cell? ⟨w.heap.size, 0, none⟩ = some u := (blk_cell BL5.out 0).trans rfl; have f5 := blk_frozen BL5.out 0; have l5 := blk_lt BL5.out)
     | (go_at_call 72; refine ((HS _).out).mono ?_; rintro e w' ⟨rfl, ⟨nd, rfl⟩⟩))
    go_roundw
    case rel =>
     have h5 : Kd.R k82 82 w5 w.heap.size (fun _ => True) (.slice Ao (acc.length + 1) co) (acc.map tok ++ [tok (kd, a0.extract (i + a) (i + b), (i : Int))]) := by
      have := HO5.out
      rwa [show (acc.map tok ++ [tok (kd, a0.extract (i + a) (i + b), (i : Int))]).length = acc.length + 1 from by simp] at this
     refine ⟨i + n + m, k, acc ++ [(kd, a0.extract (i + a) (i + b), (i : Int))], .slice Ao (acc.length + 1) co, by go_num, by omega, ⟨by have := HK.out; omega⟩, ⟨HST.out.symm⟩, ⟨by have := HAL.out; simp; omega⟩, ⟨?_⟩, ⟨?_⟩, ⟨?_⟩, ⟨?_⟩⟩
     rotate_left
     ·exact blk_drewN (blk_put BL5.out 0 _ rfl) _
     ·exact blk_drewN (blk_far BF5.out (by simp) _) _
     ·exact pw_below_drewN (below_set HB5.out (Nat.le_refl _)) _
     ·rw [List.map_append]
      exact Kd.R_drewN (Kd.R_mono (Kd.R_far (p := ⟨w.heap.size, 0, none⟩) (Kd.R_types h5 BL5.out (by decide)) (fun _ hk => hk.2) _) (fun _ _ => trivial)) _
    case measure => simp [intOf]; omega
  ·have hie : i = a0.size := by omega
   have hrr : LexSpec.joined acc (LexSpec.toks a0 (k + 1) i) = .ok acc := by simp only [LexSpec.toks, if_neg hlt, LexSpec.joined, List.append_nil]
   rw [HJ.out] at hrr
   subst hrr
   have k1 : decide ((i : Int) < (a0.size : Int)) = false := decide_eq_false (by omega)
   have k2 : decide (i < a0.size) = false := decide_eq_false (by omega)
   have c0 : wr.cell? ⟨w.heap.size, 0, none⟩ = some u := (blk_cell BL.out 0).trans rfl
   have c1 : wr.cell? ⟨w.heap.size + 1, 0, none⟩ = some (.int .i64 0) := (blk_cell BF.out 0).trans rfl
   have c2 : wr.cell? ⟨w.heap.size + 1, 1, none⟩ = some (.int .i64 0) := (blk_cell BF.out 1).trans rfl
   have f0 := blk_frozen BL.out 0
   have f1 := blk_frozen BF.out 0
   have f2 := blk_frozen BF.out 1
   clear hie hlt
   obtain ⟨A, c, hu, hlc, hC⟩ := Kd.R_reads HO.out
   subst hu
   go_wp2
   refine leaves_cons (f := 71) (args := #[.pointer (some ⟨w.heap.size, 0, none⟩), .pointer (some ⟨w.heap.size + 1, 0, none⟩)]) (by simp) (by simp [go_sem]) ?_
   refine (lex_Tokens1.idle _ _ _).mono ?_
   rintro e u' w'' ⟨rfl, rfl, rfl⟩
   refine ⟨.tuple #[.slice A (acc.map tok).length c, .agg #[.int .i64 0, .int .i64 0]], by simp [results, Try.results53, go_sem, c0, c1, c2, f0, f1, f2], ⟨_, rfl, ?_, ?_⟩⟩
   ·have hm := fun b h1 h2 (_ : b < wr.heap.size) => set3 wr w.heap.size (w.heap.size + 1) (.slice A acc.length c) (.int .i64 0) (.int .i64 0) b h1 h2
    exact R_two HO.out BL.out BF.out (by decide) (by decide) hm
   ·have h1 : w.heap.size ≤ w.heap.size := Nat.le_refl _
    have h2 : w.heap.size ≤ w.heap.size + 1 := Nat.le_succ _
    with_reducible repeat (first | exact HB.out | apply below_alloc | apply pw_below_drewN | apply below_drew1 | (refine below_set ?_ h1) | (refine below_set ?_ h2))
theorem lex_Tokens.calls (a0 : ByteArray) (r1 : List S82) (r2 : Int) (r3 : Int) (w : World) (h : lex_Tokens.f a0 = some (r1, r2, r3)) :
  Calls Try.prog 53 #[.string a0] w fun e w' => ∃ v0_ : Value, e = .returned (.tuple #[v0_, .agg #[.int .i64 r2, .int .i64 r3]]) ∧ Kd.R k82 82 w' w.heap.size (fun _ => True) v0_ r1 ∧ Below w.heap.size w w' := by
 unfold lex_Tokens.f at h
 by_cases hs : 2000 < a0.size
 ·rw [if_pos hs] at h
  simp only [Option.some.injEq, Prod.mk.injEq] at h
  obtain ⟨rfl, rfl, rfl⟩ := h
  exact lex_Tokens.long a0 w hs
 ·rw [if_neg hs] at h
  have := lex_Tokens.main a0 w (by omega) _ rfl
  unfold TokensEnd at this
  split at h
  ·rename_i l hl
   simp only [Option.some.injEq, Prod.mk.injEq] at h
   obtain ⟨rfl, rfl, rfl⟩ := h
   rw [hl] at this
   exact this
  ·rename_i l hl
   simp only [Option.some.injEq, Prod.mk.injEq] at h
   obtain ⟨rfl, rfl, rfl⟩ := h
   rw [hl] at this
   exact this
end Go.Proofs.Ytfjfbapiheehaaa.P
end
section
set_option linter.unusedVariables false
set_option linter.unusedSimpArgs false
namespace Go.Proofs.Ytfjfbapiheehaaa.V
open Go Go.RowKit Go.Proofs.Ytfjfbapiheehaaa.P Go.Proofs.YtfjfbapiheehaaaW.PrintWords
abbrev Tok := S82
abbrev Alt := S84
def encTok (t : Tok) : List D := [.val (.int .i64 t.f0), .val (.string t.f1), .val (.int .i64 t.f2)]
def encAlt (a : Alt) : List D := [.val (.int .i64 a.f0.f0), .val (.string a.f0.f1), .val (.int .i64 a.f0.f2), .sl 3 (a.f1.map encTok)]
theorem tok_row {R : Addr → Value → Prop} (t : Tok) : rowRep R (encTok t) [.int .i64 t.f0, .string t.f1, .int .i64 t.f2] :=
 row_append (row_one (.val _ rfl)) (row_append (row_one (.val _ rfl)) (row_one (.val _ rfl)))
theorem tok_K {R : Addr → Value → Prop} {w : World} (t : Tok) (cs : List Value) (h : rowRep R (encTok t) cs) : Kd.K k82 w t cs := by
 obtain ⟨hl, h⟩ := h
 match cs, hl with
 | [a, b, c], _ =>
  have h0 := h 0 _ a rfl rfl
  have h1 := h 1 _ b rfl rfl
  have h2 := h 2 _ c rfl rfl
  cases h0; cases h1; cases h2
  exact k82_mk w t
theorem alt_row {R : Addr → Value → Prop} (x : Alt) {v : Value} (h : DRep R (.sl 3 (x.f1.map encTok)) v) : rowRep R (encAlt x) [.int .i64 x.f0.f0, .string x.f0.f1, .int .i64 x.f0.f2, v] :=
 row_append (row_one (.val _ rfl)) (row_append (row_one (.val _ rfl)) (row_append (row_one (.val _ rfl)) (row_one h)))
abbrev fV (e p : Int) : V := .agg [.val (.int .i64 e), .val (.int .i64 p)]
theorem fault_V {R : Addr → Value → Prop} {gv : Nat → Option Value} {x : Nat} (e p : Int) : VRep R gv x (fV e p) (.agg #[.int .i64 e, .int .i64 p]) := by
 refine .agg _ _ rfl (fun i c m hc hm => ?_)
 match i, hc, hm with
 | 0, hc, hm => obtain rfl := Option.some.inj hc; obtain rfl := Option.some.inj hm; exact .val _ rfl
 | 1, hc, hm => obtain rfl := Option.some.inj hc; obtain rfl := Option.some.inj hm; exact .val _ rfl
 | i + 2, hc, hm => cases hc
theorem tokens_at {s : ByteArray} {l : List Tok} {e p : Int} (hf : lex_Tokens.f s = some (l, e, p)) (hl : l.length ≤ most) : VCalls Try.prog 53 [.val (.string s)] [] 0 (Gives (.tup [.sl 3 (l.map encTok), fV e p])) := fun z g w ms h1 h2 h3 => by
 obtain ⟨m0, rfl⟩ : ∃ m0, ms = #[m0] := by
  match ms, h2 with
  | ⟨[a]⟩, _ => exact ⟨a, rfl⟩
 have e0 := (h3 0 _ m0 rfl rfl).val_inv
 subst e0
 refine (lex_Tokens.calls s l e p w hf).mono ?_
 rintro e' w' ⟨v, rfl, hR, hbel⟩
 refine ⟨g, [], 0, _, h1.below hbel, ?_, rfl, rfl, rfl⟩
 have hrd := fresh_rd (z := z) (g := g) (w := w) (w' := w') (fun k hk => (h1.apz k hk).1)
 refine .tup _ _ rfl (fun i c m hc hm => ?_)
 match i, hc, hm with
 | 0, hc, hm =>
  obtain rfl := Option.some.inj hc
  obtain rfl := Option.some.inj hm
  refine .sl _ _ _ (of_R (d := k82) hrd (fun x _ => rfl) (fun y _ ok'' cs' hM' => ?_) hl hR)
  rw [k82_openM hM']
  exact tok_row y
 | 1, hc, hm =>
  obtain rfl := Option.some.inj hc
  obtain rfl := Option.some.inj hm
  exact fault_V e p
 | i + 2, hc, hm => cases hc
theorem alts_at {l : List Tok} {e : Int} {r1 : List Alt} {r2 r3 : Int} (hf : read_Alts.f l e = some (r1, r2, r3)) (hb : r1.length ≤ most) (hb' : ∀ x ∈ r1, x.f1.length ≤ most) : VCalls Try.prog 55 [.sl 3 (l.map encTok), .val (.int .i64 e)] [] 0 (Gives (.tup [.sl 4 (r1.map encAlt), fV r2 r3])) := fun z g w ms h1 h2 h3 => by
 obtain ⟨m0, m1, rfl⟩ : ∃ m0 m1, ms = #[m0, m1] := by
  match ms, h2 with
  | ⟨[a, b]⟩, _ => exact ⟨a, b, rfl⟩
 have v0 := h3 0 _ m0 rfl rfl
 have e1 := (h3 1 _ m1 rfl rfl).val_inv
 subst e1
 cases v0 with
 | sl _ _ _ hd =>
  obtain ⟨A, c, rfl, hc, hC⟩ := to_C (d := k82) (w := w) (fun a u h => h.cell) (fun x _ => rfl) (fun x _ cs h => tok_K x cs h) hd
  refine (read_Alts.calls A c l e r1 r2 r3 w hC hc hf).mono ?_
  rintro e' w' ⟨v, rfl, hR, hbel⟩
  refine ⟨g, [], 0, _, h1.below hbel, ?_, rfl, rfl, rfl⟩
  have hrd := fresh_rd (z := z) (g := g) (w := w) (w' := w') (fun k hk => (h1.apz k hk).1)
  refine .tup _ _ rfl (fun i c m hc hm => ?_)
  match i, hc, hm with
  | 0, hc, hm =>
   obtain rfl := Option.some.inj hc
   obtain rfl := Option.some.inj hm
   refine .sl _ _ _ (of_R (d := k84) hrd (fun x _ => rfl) (fun x hx ok' cs hM => ?_) hb hR)
   obtain ⟨v3, rfl, hR3⟩ := k84_openM hM
   refine alt_row x (of_R (d := k82) hrd (fun x _ => rfl) (fun y _ ok'' cs' hM' => ?_) (hb' x hx) hR3)
   rw [k82_openM hM']
   exact tok_row y
  | 1, hc, hm =>
   obtain rfl := Option.some.inj hc
   obtain rfl := Option.some.inj hm
   exact fault_V r2 r3
  | i + 2, hc, hm => cases hc
end Go.Proofs.Ytfjfbapiheehaaa.V
end
section
set_option linter.unusedVariables false
set_option linter.unusedSimpArgs false
namespace Go.Proofs.Ytfjfbapiheehaaa.V
open Go Go.RowKit Go.Proofs.Ytfjfbapiheehaaa.P
def addS (l : List ByteArray) (s : ByteArray) : List ByteArray := if l.any (fun y => decide (s = y)) then l else l ++ [s]
set_option maxHeartbeats 1000000 in
theorem addedS_v (l : List ByteArray) (x : ByteArray) (hl : l.length ≤ 1000000) : VCalls Try.prog 56 [.ref 0, .val (.string x)] [(0, .arr 9 1 (l.map encS))] 1 (Leaves (.ref 1) [(1, .arr 9 1 ((addS l x).map encS))] 2) := by
 refine VCalls.enterL (n := 13) Try.func56 rfl rfl (by simp) (fun cx hcx => ?_)
 (repeat (first | ((with_reducible refine VOps.same ?_); (first | (refine VOps.nil ?_; try dsimp only [VThen, VBlock]) | refine VOps.vP (VPure.move rfl rfl) ?_ | refine VOps.vP (VPure.assign rfl rfl) ?_)) | refine VCode.seq ?_ | refine VCode.region rfl ?_))
 refine VOps.pure rfl Try.func76 rfl (by kernel_rfl) rfl rfl rfl rfl rfl rfl rfl (contS_v l x hl) ?_
 (repeat (first | ((with_reducible refine VOps.same ?_); (first | (refine VOps.nil ?_; try dsimp only [VThen, VBlock])))))
 refine VCode.cond rfl (fun hb => ?_) (fun hb => ?_)
 ·(repeat (first | ((with_reducible refine VOps.same ?_); (first | (refine VOps.nil ?_; try dsimp only [VThen, VBlock]) | refine VOps.vP (VPure.move rfl rfl) ?_ | refine VOps.vP (VPure.assign rfl rfl) ?_)) | refine VCode.seq ?_ | refine VCode.region rfl ?_))
  refine VCode.againA (id := 0) rfl ?_
  have e : addS l x = l := by unfold addS; rw [if_pos hb]
  rw [e]
  refine VCode.ret ?_
  (show Less cx _ _; refine Less.mkx (l := [0, 1]) (st' := ⟨[(4, .ref 1)], [(1, .arr 9 1 (l.map encS))], 2⟩) 1 hcx (Nat.le_of_ble_eq_true rfl) (by decide) ?ss ?hh rfl (by decide) rfl ⟨_, (.tmp rfl .nil), rfl, rfl, rfl⟩; (case ss => repeat (first | exact SubS.nil | refine SubS.cons rfl rfl ?_ | refine SubS.cons (ciI (by omega)) rfl ?_ | refine SubS.cons (ciB (by assumption)) rfl ?_)); (case hh => repeat (first | exact SubH.nil | refine SubH.cons rfl rfl rfl ?_)))
 ·(repeat (first | ((with_reducible refine VOps.same ?_); (first | refine VOps.vP (VPure.move rfl rfl) ?_ | refine VOps.one rfl rfl (by kernel_rfl) rfl (by rfl) (by decide) (by decide) rfl (by rfl) (by rfl) ?_)) | refine VCode.seq ?_ | refine VCode.region rfl ?_ | refine VCode.skip ?_))
  have e : addS l x = l ++ [x] := by unfold addS; rw [if_neg (by rw [hb]; exact Bool.false_ne_true)]
  refine VOps.append (zs := (l ++ [x]).map encS) rfl rfl (by kernel_rfl) rfl (by rfl) (by decide) rfl (.arr rfl) rfl (.arr rfl) (by simp only [List.length_append, List.length_cons, List.length_nil, List.length_map]; unfold most; omega) (by simp only [List.length_append, List.length_cons, List.length_nil, List.length_map]; unfold most; omega) rfl ( by rw [List.map_append]; rfl) ?_
  (repeat (first | ((with_reducible refine VOps.same ?_); (first | (refine VOps.nil ?_; try dsimp only [VThen, VBlock]) | refine VOps.vP (VPure.assign rfl rfl) ?_))))
  rw [e]
  refine VCode.ret ?_
  (show Less cx _ _; refine Less.mkx (l := [0, 2]) (st' := ⟨[(4, .ref 1)], [(1, .arr 9 1 ((l ++ [x]).map encS))], 2⟩) 1 hcx (Nat.le_of_ble_eq_true rfl) (by decide) ?ss ?hh rfl (by decide) rfl ⟨_, (.tmp rfl .nil), rfl, rfl, rfl⟩; (case ss => repeat (first | exact SubS.nil | refine SubS.cons rfl rfl ?_ | refine SubS.cons (ciI (by omega)) rfl ?_ | refine SubS.cons (ciB (by assumption)) rfl ?_)); (case hh => repeat (first | exact SubH.nil | refine SubH.cons rfl rfl rfl ?_)))
set_option maxHeartbeats 1000000 in
theorem check_v (p : Int) : VCalls Try.prog 54 [fV 0 p] [] 0 (Gives (.tup [])) := by
 refine VCalls.enterD (n := 7) Try.func54 rfl rfl (by simp) rfl (fun cx hcx => ?_)
 (repeat (first | ((with_reducible refine VOps.same ?_); (first | (refine VOps.nil ?_; try dsimp only [VThen, VBlock]) | refine VOps.vP (VPure.field_ptr rfl rfl rfl) ?_ | refine VOps.vV (VLoad.box1 rfl rfl rfl rfl (by rfl) (by decide)) ?_ | refine VOps.vP (VPure.nei rfl rfl rfl) ?_ | refine VOps.box rfl rfl (by kernel_rfl) rfl rfl rfl rfl ?_)) | refine VCode.seq ?_ | refine VCode.region rfl ?_))
 refine VCode.cond_f rfl rfl ?_
 (repeat (first | refine VCode.skip ?_))
 exact ⟨_, .nil, rfl⟩
def symOf (terms names : List ByteArray) (t : Tok) : Int := if t.f0 = 2 then firstAt (fun y => decide (t.f1 = y)) terms else (terms.length : Int) + firstAt (fun y => decide (t.f1 = y)) names
def numOf (terms names : List ByteArray) (a : Alt) : Ru := ⟨(terms.length : Int) + firstAt (fun y => decide (a.f0.f1 = y)) names, a.f1.map (symOf terms names)⟩
theorem firstAt_le {α : Type} (p : α → Bool) (l : List α) : -1 ≤ firstAt p l ∧ firstAt p l ≤ l.length := by
 unfold firstAt
 cases h : l.findIdx? p with
 | none => simp only; omega
 | some i =>
  have := (List.findIdx?_eq_some_iff_getElem.1 h).1
  simp only; omega
set_option maxHeartbeats 4000000 in
theorem numbered_v (terms names : List ByteArray) (rs : List Ru) (a : Alt) (ht : terms.length ≤ 1000) (hn : names.length ≤ 1000) (hr : a.f1.length ≤ 1000) (hin : ∀ t ∈ a.f1, t.f0 ≠ 2 → 0 ≤ firstAt (fun y => decide (t.f1 = y)) names) :
  VCalls Try.prog 57 [.agg [.sl 1 (terms.map encS), .sl 1 (names.map encS), .ref 0], .agg [.val (.int .i64 a.f0.f0), .val (.string a.f0.f1), .val (.int .i64 a.f0.f2), .sl 3 (a.f1.map encTok)]] [(0, .arr 46 2 (rs.map encR))] 1 (Leaves (rV (numOf terms names a)) [(0, .arr 46 2 (rs.map encR)), (1, .cells 46 [.val (.int .i64 (numOf terms names a).left), .sl 1 ((numOf terms names a).right.map encI)])] 2) := by
 have hf := firstAt_le (fun y => decide (a.f0.f1 = y)) names
 refine VCalls.enterL (n := 63) Try.func57 rfl rfl (by simp) (fun cx hcx => ?_)
 (repeat (first | ((with_reducible refine VOps.same ?_); (first | (refine VOps.nil ?_; try dsimp only [VThen, VBlock]) | refine VOps.alloc rfl rfl (by kernel_rfl) rfl (by kernel_rfl) rfl ?_ | refine VOps.box rfl rfl (by kernel_rfl) rfl rfl rfl rfl ?_)) | refine VCode.seq ?_ | refine VCode.region rfl ?_))
 refine VCode.thenTo ⟨[(2, .ptr 1 0), (3, .ptr 2 0), (4, .ptr 3 0), (5, .ptr 4 0)], [(0, .arr 46 2 (rs.map encR)), (1, .cells 25 [.sl 1 (terms.map encS), .sl 1 (names.map encS), .ref 0]), (2, .cells 84 [.val (.int .i64 a.f0.f0), .val (.string a.f0.f1), .val (.int .i64 a.f0.f2), .sl 3 (a.f1.map encTok)]), (3, .cells 46 [.val (.int .i64 0), .val (.slice none 0 0)]), (4, .cells 46 [.val (.int .i64 ((terms.length : Int) + firstAt (fun y => decide (a.f0.f1 = y)) names)), .val (.slice none 0 0)])], 5⟩ ?_ ?_
 ·refine VCode.drawAny [4] (by kernel_rfl) rfl ?_
  refine VAny.pureI (i := 0) rfl rfl (by kernel_rfl) rfl (VPure.field_ptr rfl rfl rfl) ?_
  refine VAny.loadI (i := 1) rfl rfl (by kernel_rfl) rfl (VLoad.box1 rfl rfl rfl rfl (by rfl) (by decide)) ?_
  refine VAny.pureI (i := 2) rfl rfl (by kernel_rfl) rfl (VPure.len_map TI.und' rfl rfl) ?_
  refine VAny.pureI (i := 3) rfl rfl (by kernel_rfl) rfl (VPure.field_ptr rfl rfl rfl) ?_
  refine VAny.loadI (i := 4) rfl rfl (by kernel_rfl) rfl (VLoad.box1 rfl rfl rfl rfl (by rfl) (by decide)) ?_
  refine VAny.pureI (i := 5) rfl rfl (by kernel_rfl) rfl (VPure.field_ptr rfl rfl rfl) ?_
  refine VAny.pureI (i := 6) rfl rfl (by kernel_rfl) rfl (VPure.field_ptr rfl rfl rfl) ?_
  refine VAny.loadI (i := 7) rfl rfl (by kernel_rfl) rfl (VLoad.box1 rfl rfl rfl rfl (by rfl) (by decide)) ?_
  refine VAny.movesI (is := [8, 11]) (by kernel_rfl) (by simp) rfl (allC ?_ (all1 ?_))
  ·refine VMv.pure rfl rfl Try.func77 rfl rfl rfl rfl rfl rfl rfl rfl (idxS_v names a.f0.f1 (by omega)) ?_
   refine VAny.pureI (i := 9) rfl rfl (by kernel_rfl) rfl (VPure.addK rfl rfl rfl (by omega)) ?_
   refine VAny.pureI (i := 10) rfl rfl (by kernel_rfl) rfl (VPure.buildC rfl (by kernel_rfl) rfl (by rfl)) ?_
   refine VAny.movesI (is := [11]) (by kernel_rfl) (by simp) rfl (all1 ?_)
   ·refine VMv.alloc rfl rfl rfl rfl (by kernel_rfl) rfl ?_
    refine VAny.movesI (is := [12]) (by kernel_rfl) (by simp) rfl (all1 ?_)
    ·refine VMv.store rfl rfl rfl (by rfl) rfl rfl rfl rfl rfl rfl (leR (by rfl)) rfl ?_
     refine VAny.done ?_
     (refine Less.mkx (l := [0, 1, 2, 3, 4]) 1 hcx (by exact Nat.le_of_ble_eq_true rfl) (by decide) ?ss ?hh rfl (by decide) rfl rfl; (case ss => repeat (first | exact SubS.nil | refine SubS.cons rfl rfl ?_ | refine SubS.cons (ciI (by omega)) rfl ?_ | refine SubS.cons (ciB (by assumption)) rfl ?_)); (case hh => repeat (first | exact SubH.nil | refine SubH.cons rfl rfl rfl ?_)))
  ·refine VMv.alloc rfl rfl rfl rfl (by kernel_rfl) rfl ?_
   refine VAny.movesI (is := [8]) (by kernel_rfl) (by simp) rfl (all1 ?_)
   ·refine VMv.pure rfl rfl Try.func77 rfl rfl rfl rfl rfl rfl rfl rfl (idxS_v names a.f0.f1 (by omega)) ?_
    refine VAny.pureI (i := 9) rfl rfl (by kernel_rfl) rfl (VPure.addK rfl rfl rfl (by omega)) ?_
    refine VAny.pureI (i := 10) rfl rfl (by kernel_rfl) rfl (VPure.buildC rfl (by kernel_rfl) rfl (by rfl)) ?_
    refine VAny.movesI (is := [12]) (by kernel_rfl) (by simp) rfl (all1 ?_)
    ·refine VMv.store rfl rfl rfl (by rfl) rfl rfl rfl rfl rfl rfl (leR (by rfl)) rfl ?_
     refine VAny.done ?_
     (refine Less.mkx (l := [0, 1, 2, 3, 4]) 1 hcx (by exact Nat.le_of_ble_eq_true rfl) (by decide) ?ss ?hh rfl (by decide) rfl rfl; (case ss => repeat (first | exact SubS.nil | refine SubS.cons rfl rfl ?_ | refine SubS.cons (ciI (by omega)) rfl ?_ | refine SubS.cons (ciB (by assumption)) rfl ?_)); (case hh => repeat (first | exact SubH.nil | refine SubH.cons rfl rfl rfl ?_)))
 (repeat (first | ((with_reducible refine VOps.same ?_); (first | (refine VOps.nil ?_; try dsimp only [VThen, VBlock]) | refine VOps.vP (VPure.move rfl rfl) ?_ | refine VOps.vP (VPure.len_map TI.und' rfl rfl) ?_ | refine VOps.vP (VPure.field_ptr rfl rfl rfl) ?_ | refine VOps.vV (VLoad.box1 rfl rfl rfl rfl (by rfl) (by decide)) ?_)) | refine VCode.seq ?_ | refine VCode.region rfl ?_ | refine VCode.block ?_))
 refine VCode.nilCell (id := 4) 1 3 1 rfl rfl rfl rfl ?_
 refine VCode.loop (fun m st => ∃ (k : Nat) (out : List Int), k ≤ a.f1.length ∧ m = a.f1.length - k ∧ out = (a.f1.take k).map (symOf terms names) ∧ st = ⟨[(23, .val (.int .i64 (k : Int))), (22, .val (.int .i64 (a.f1.length : Int))), (21, .sl 3 (a.f1.map encTok)), (2, .ptr 1 0), (3, .ptr 2 0), (4, .ptr 3 0), (5, .ptr 4 0)], [(0, .arr 46 2 (rs.map encR)), (1, .cells 25 [.sl 1 (terms.map encS), .sl 1 (names.map encS), .ref 0]), (2, .cells 84 [.val (.int .i64 a.f0.f0), .val (.string a.f0.f1), .val (.int .i64 a.f0.f2), .sl 3 (a.f1.map encTok)]), (3, .cells 46 [.val (.int .i64 0), .val (.slice none 0 0)]), (4, .cells 46 [.val (.int .i64 ((terms.length : Int) + firstAt (fun y => decide (a.f0.f1 = y)) names)), .ref 5]), (5, .arr 3 1 (out.map encI))], 6⟩) a.f1.length ?_ ?_
 ·(refine Less.mkx (l := [0, 1, 2, 3, 4, 5]) 1 hcx (by exact Nat.le_of_ble_eq_true rfl) (by decide) ?ss ?hh rfl (by decide) rfl ⟨0, [], by omega, by omega, rfl, rfl⟩; (case ss => repeat (first | exact SubS.nil | refine SubS.cons rfl rfl ?_ | refine SubS.cons (ciI (by omega)) rfl ?_ | refine SubS.cons (ciB (by assumption)) rfl ?_)); (case hh => repeat (first | exact SubH.nil | refine SubH.cons rfl rfl rfl ?_)))
 rintro m st ⟨k, out, hk, rfl, hout, rfl⟩
 have hol := congrArg List.length hout
 rw [List.length_map, List.length_take] at hol
 cases hq : a.f1[k]? with
 | some t =>
  have hlt : k < a.f1.length := (List.getElem?_eq_some_iff.1 hq).1
  have hst : (a.f1.take (k + 1)).map (symOf terms names) = out ++ [symOf terms names t] := by rw [List.take_add_one, hq, List.map_append, ← hout]; rfl
  have hft := firstAt_le (fun y => decide (t.f1 = y)) terms
  have hfn := firstAt_le (fun y => decide (t.f1 = y)) names
  (repeat (first | ((with_reducible refine VOps.same ?_); (first | (refine VOps.nil ?_; try dsimp only [VThen, VBlock]) | refine VOps.vP (VPure.lss rfl rfl rfl) ?_)) | refine VCode.seq ?_ | refine VCode.region rfl ?_))
  refine VCode.cond_t rfl (decide_eq_true (by omega)) ?_
  (repeat (first | ((with_reducible refine VOps.same ?_); (first | (refine VOps.nil ?_; try dsimp only [VThen, VBlock]) | refine VOps.vP (VPure.idx_map rfl rfl rfl (by assumption)) ?_ | refine VOps.vP (VPure.field_ptr rfl rfl rfl) ?_ | refine VOps.vV (VLoad.box1 rfl rfl rfl rfl (by rfl) (by decide)) ?_ | refine VOps.vV (VLoad.elA rfl rfl (by rfl) (leR (by rfl))) ?_ | refine VOps.vP (VPure.eqi rfl rfl rfl) ?_ | refine VOps.alloc rfl rfl (by kernel_rfl) rfl (by kernel_rfl) rfl ?_ | refine VOps.store rfl rfl (by kernel_rfl) rfl rfl rfl rfl rfl rfl (leR (by rfl)) rfl ?_)) | refine VCode.seq ?_ | refine VCode.region rfl ?_ | refine VCode.block ?_ | refine VCode.skip ?_))
  refine VCode.cond rfl (fun hb => ?_) (fun hb => ?_)
  ·have hb : t.f0 = 2 := of_decide_eq_true hb
   have hsy : symOf terms names t = firstAt (fun y => decide (t.f1 = y)) terms := by unfold symOf; rw [if_pos hb]
   (repeat (first | refine VCode.seq ?_))
   refine VCode.thenTo ⟨[(23, .val (.int .i64 (k : Int))), (22, .val (.int .i64 (a.f1.length : Int))), (21, .sl 3 (a.f1.map encTok)), (2, .ptr 1 0), (3, .ptr 2 0), (4, .ptr 3 0), (5, .ptr 4 0)], [(0, .arr 46 2 (rs.map encR)), (1, .cells 25 [.sl 1 (terms.map encS), .sl 1 (names.map encS), .ref 0]), (2, .cells 84 [.val (.int .i64 a.f0.f0), .val (.string a.f0.f1), .val (.int .i64 a.f0.f2), .sl 3 (a.f1.map encTok)]), (3, .cells 46 [.val (.int .i64 0), .val (.slice none 0 0)]), (4, .cells 46 [.val (.int .i64 ((terms.length : Int) + firstAt (fun y => decide (a.f0.f1 = y)) names)), .ref 5]), (5, .arr 3 1 ((out ++ [firstAt (fun y => decide (t.f1 = y)) terms]).map encI))], 6⟩ ?_ ?_
   ·refine VCode.drawAny [4, 5] (by kernel_rfl) rfl ?_
    refine VAny.pureI (i := 0) rfl rfl (by kernel_rfl) rfl (VPure.field_ptr rfl rfl rfl) ?_
    refine VAny.pureI (i := 2) rfl rfl (by kernel_rfl) rfl (VPure.field_ptr rfl rfl rfl) ?_
    refine VAny.loadI (i := 3) rfl rfl (by kernel_rfl) rfl (VLoad.box1 rfl rfl rfl rfl (by rfl) (by decide)) ?_
    refine VAny.pureI (i := 4) rfl rfl (by kernel_rfl) rfl (VPure.field_ptr rfl rfl rfl) ?_
    refine VAny.loadI (i := 5) rfl rfl (by kernel_rfl) rfl (VLoad.box1 rfl rfl rfl rfl (by rfl) (by decide)) ?_
    refine VAny.movesI (is := [1, 6]) (by kernel_rfl) (by simp) rfl (allC ?_ (all1 ?_))
    ·refine VMv.load rfl rfl rfl (VLoad.box1 rfl rfl rfl rfl (by rfl) (by decide)) ?_
     refine VAny.movesI (is := [6]) (by kernel_rfl) (by simp) rfl (all1 ?_)
     ·refine VMv.pure rfl rfl Try.func77 rfl rfl rfl rfl rfl rfl rfl rfl (idxS_v terms t.f1 (by omega)) ?_
      refine VAny.movesI (is := [7]) (by kernel_rfl) (by simp) rfl (all1 ?_)
      ·refine VMv.one rfl rfl rfl rfl (by rfl) (by decide) (by decide) rfl (by rfl) (by rfl) ?_
       refine VAny.movesI (is := [8]) (by kernel_rfl) (by simp) rfl (all1 ?_)
       ·refine VMv.append (zs := (out ++ [firstAt (fun y => decide (t.f1 = y)) terms]).map encI) rfl rfl rfl rfl (by rfl) (by decide) rfl (.arr rfl) rfl rfl (.arr rfl) (by simp only [List.length_append, List.length_cons, List.length_nil, List.length_map]; unfold most; omega) (by simp only [List.length_append, List.length_cons, List.length_nil, List.length_map]; unfold most; omega) rfl ( by rw [List.map_append]; rfl) ?_
        refine VAny.pureI (i := 9) rfl rfl (by kernel_rfl) rfl (VPure.field_ptr rfl rfl rfl) ?_
        refine VAny.movesI (is := [10]) (by kernel_rfl) (by simp) rfl (all1 ?_)
        ·refine VMv.store rfl rfl rfl (by rfl) rfl rfl rfl rfl rfl rfl (leR (by rfl)) rfl ?_
         refine VAny.done ?_
         (refine Less.mkx (l := [0, 1, 2, 3, 4, 8]) 1 hcx (by exact Nat.le_of_ble_eq_true rfl) (by decide) ?ss ?hh rfl (by decide) rfl rfl; (case ss => repeat (first | exact SubS.nil | refine SubS.cons rfl rfl ?_ | refine SubS.cons (ciI (by omega)) rfl ?_ | refine SubS.cons (ciB (by assumption)) rfl ?_)); (case hh => repeat (first | exact SubH.nil | refine SubH.cons rfl rfl rfl ?_)))
    ·refine VMv.pure rfl rfl Try.func77 rfl rfl rfl rfl rfl rfl rfl rfl (idxS_v terms t.f1 (by omega)) ?_
     refine VAny.movesI (is := [1, 7]) (by kernel_rfl) (by simp) rfl (allC ?_ (all1 ?_))
     ·refine VMv.load rfl rfl rfl (VLoad.box1 rfl rfl rfl rfl (by rfl) (by decide)) ?_
      refine VAny.movesI (is := [7]) (by kernel_rfl) (by simp) rfl (all1 ?_)
      ·refine VMv.one rfl rfl rfl rfl (by rfl) (by decide) (by decide) rfl (by rfl) (by rfl) ?_
       refine VAny.movesI (is := [8]) (by kernel_rfl) (by simp) rfl (all1 ?_)
       ·refine VMv.append (zs := (out ++ [firstAt (fun y => decide (t.f1 = y)) terms]).map encI) rfl rfl rfl rfl (by rfl) (by decide) rfl (.arr rfl) rfl rfl (.arr rfl) (by simp only [List.length_append, List.length_cons, List.length_nil, List.length_map]; unfold most; omega) (by simp only [List.length_append, List.length_cons, List.length_nil, List.length_map]; unfold most; omega) rfl ( by rw [List.map_append]; rfl) ?_
        refine VAny.pureI (i := 9) rfl rfl (by kernel_rfl) rfl (VPure.field_ptr rfl rfl rfl) ?_
        refine VAny.movesI (is := [10]) (by kernel_rfl) (by simp) rfl (all1 ?_)
        ·refine VMv.store rfl rfl rfl (by rfl) rfl rfl rfl rfl rfl rfl (leR (by rfl)) rfl ?_
         refine VAny.done ?_
         (refine Less.mkx (l := [0, 1, 2, 3, 4, 8]) 1 hcx (by exact Nat.le_of_ble_eq_true rfl) (by decide) ?ss ?hh rfl (by decide) rfl rfl; (case ss => repeat (first | exact SubS.nil | refine SubS.cons rfl rfl ?_ | refine SubS.cons (ciI (by omega)) rfl ?_ | refine SubS.cons (ciB (by assumption)) rfl ?_)); (case hh => repeat (first | exact SubH.nil | refine SubH.cons rfl rfl rfl ?_)))
     ·refine VMv.one rfl rfl rfl rfl (by rfl) (by decide) (by decide) rfl (by rfl) (by rfl) ?_
      refine VAny.movesI (is := [1]) (by kernel_rfl) (by simp) rfl (all1 ?_)
      ·refine VMv.load rfl rfl rfl (VLoad.box1 rfl rfl rfl rfl (by rfl) (by decide)) ?_
       refine VAny.movesI (is := [8]) (by kernel_rfl) (by simp) rfl (all1 ?_)
       ·refine VMv.append (zs := (out ++ [firstAt (fun y => decide (t.f1 = y)) terms]).map encI) rfl rfl rfl rfl (by rfl) (by decide) rfl (.arr rfl) rfl rfl (.arr rfl) (by simp only [List.length_append, List.length_cons, List.length_nil, List.length_map]; unfold most; omega) (by simp only [List.length_append, List.length_cons, List.length_nil, List.length_map]; unfold most; omega) rfl ( by rw [List.map_append]; rfl) ?_
        refine VAny.pureI (i := 9) rfl rfl (by kernel_rfl) rfl (VPure.field_ptr rfl rfl rfl) ?_
        refine VAny.movesI (is := [10]) (by kernel_rfl) (by simp) rfl (all1 ?_)
        ·refine VMv.store rfl rfl rfl (by rfl) rfl rfl rfl rfl rfl rfl (leR (by rfl)) rfl ?_
         refine VAny.done ?_
         (refine Less.mkx (l := [0, 1, 2, 3, 4, 8]) 1 hcx (by exact Nat.le_of_ble_eq_true rfl) (by decide) ?ss ?hh rfl (by decide) rfl rfl; (case ss => repeat (first | exact SubS.nil | refine SubS.cons rfl rfl ?_ | refine SubS.cons (ciI (by omega)) rfl ?_ | refine SubS.cons (ciB (by assumption)) rfl ?_)); (case hh => repeat (first | exact SubH.nil | refine SubH.cons rfl rfl rfl ?_)))
   (repeat (first | ((with_reducible refine VOps.same ?_); (first | (refine VOps.nil ?_; try dsimp only [VThen, VBlock]) | refine VOps.vP (VPure.move rfl rfl) ?_ | refine VOps.vP (VPure.addK rfl rfl rfl (by omega)) ?_)) | refine VCode.region rfl ?_ | refine VCode.exit ?_))
   (refine Less.mkx (l := [0, 1, 2, 3, 4, 5]) 1 hcx (by exact Nat.le_of_ble_eq_true rfl) (by decide) ?ss ?hh rfl (by decide) rfl ⟨_, ?_, k + 1, out ++ [firstAt (fun y => decide (t.f1 = y)) terms], by omega, rfl, by rw [hst, hsy], rfl⟩; (case ss => repeat (first | exact SubS.nil | refine SubS.cons rfl rfl ?_ | refine SubS.cons (ciI (by omega)) rfl ?_ | refine SubS.cons (ciB (by assumption)) rfl ?_)); (case hh => repeat (first | exact SubH.nil | refine SubH.cons rfl rfl rfl ?_)))
   omega
  ·have hb : ¬ t.f0 = 2 := of_decide_eq_false hb
   have hsy : symOf terms names t = (terms.length : Int) + firstAt (fun y => decide (t.f1 = y)) names := by unfold symOf; rw [if_neg hb]
   have h0 := hin t (List.mem_of_getElem? hq) hb
   (repeat (first | ((with_reducible refine VOps.same ?_); (first | refine VOps.vP (VPure.field_ptr rfl rfl rfl) ?_ | refine VOps.vV (VLoad.box1 rfl rfl rfl rfl (by rfl) (by decide)) ?_)) | refine VCode.seq ?_ | refine VCode.region rfl ?_ | refine VCode.skip ?_))
   refine VOps.pure rfl Try.func77 rfl (by kernel_rfl) rfl rfl rfl rfl rfl rfl rfl (idxS_v names t.f1 (by omega)) ?_
   (repeat (first | ((with_reducible refine VOps.same ?_); (first | (refine VOps.nil ?_; try dsimp only [VThen, VBlock]) | refine VOps.vP (VPure.move rfl rfl) ?_ | refine VOps.vP (VPure.assign rfl rfl) ?_ | refine VOps.vP (VPure.lss rfl rfl rfl) ?_)) | refine VCode.seq ?_ | refine VCode.region rfl ?_))
   refine VCode.cond_f rfl (decide_eq_false (by omega)) ?_
   (repeat (first | ((with_reducible refine VOps.same ?_); (first | refine VOps.vP (VPure.move rfl rfl) ?_ | refine VOps.vP (VPure.len_map TI.und' rfl rfl) ?_ | refine VOps.vP (VPure.field_ptr rfl rfl rfl) ?_ | refine VOps.vV (VLoad.box1 rfl rfl rfl rfl (by rfl) (by decide)) ?_ | refine VOps.vP (VPure.addK rfl rfl rfl (by omega)) ?_ | refine VOps.one rfl rfl (by kernel_rfl) rfl (by rfl) (by decide) (by decide) rfl (by rfl) (by rfl) ?_)) | refine VCode.region rfl ?_ | refine VCode.skip ?_))
   refine VOps.append (zs := (out ++ [(terms.length : Int) + firstAt (fun y => decide (t.f1 = y)) names]).map encI) rfl rfl (by kernel_rfl) rfl (by rfl) (by decide) rfl (.arr rfl) rfl (.arr rfl) (by simp only [List.length_append, List.length_cons, List.length_nil, List.length_map]; unfold most; omega) (by simp only [List.length_append, List.length_cons, List.length_nil, List.length_map]; unfold most; omega) rfl ( by rw [List.map_append]; rfl) ?_
   (repeat (first | ((with_reducible refine VOps.same ?_); (first | (refine VOps.nil ?_; try dsimp only [VThen, VBlock]) | refine VOps.vP (VPure.move rfl rfl) ?_ | refine VOps.vP (VPure.field_ptr rfl rfl rfl) ?_ | refine VOps.vP (VPure.addK rfl rfl rfl (by omega)) ?_ | refine VOps.store rfl rfl (by kernel_rfl) rfl rfl rfl rfl rfl rfl (leR (by rfl)) rfl ?_)) | refine VCode.region rfl ?_))
   (refine Less.mkx (l := [0, 1, 2, 3, 4, 8]) 1 hcx (by exact Nat.le_of_ble_eq_true rfl) (by decide) ?ss ?hh rfl (by decide) rfl ⟨_, ?_, k + 1, out ++ [(terms.length : Int) + firstAt (fun y => decide (t.f1 = y)) names], by omega, rfl, by rw [hst, hsy], rfl⟩; (case ss => repeat (first | exact SubS.nil | refine SubS.cons rfl rfl ?_ | refine SubS.cons (ciI (by omega)) rfl ?_ | refine SubS.cons (ciB (by assumption)) rfl ?_)); (case hh => repeat (first | exact SubH.nil | refine SubH.cons rfl rfl rfl ?_)))
   omega
 | none =>
  have hge : a.f1.length ≤ k := List.getElem?_eq_none_iff.1 hq
  rw [List.take_of_length_le hge] at hout
  subst hout
  (repeat (first | ((with_reducible refine VOps.same ?_); (first | (refine VOps.nil ?_; try dsimp only [VThen, VBlock]) | refine VOps.vP (VPure.lss rfl rfl rfl) ?_)) | refine VCode.seq ?_ | refine VCode.region rfl ?_))
  refine VCode.cond_f rfl (decide_eq_false (by omega)) ?_
  (repeat (first | ((with_reducible refine VOps.same ?_); (first | (refine VOps.nil ?_; try dsimp only [VThen, VBlock]) | refine VOps.vV (VLoad.boxA rfl rfl rfl (by rfl) (leR (by rfl)) (by decide)) ?_ | refine VOps.store rfl rfl (by kernel_rfl) rfl rfl rfl rfl rfl rfl (leR (by rfl)) rfl ?_)) | refine VCode.seq ?_ | refine VCode.region rfl ?_ | refine VCode.exit ?_))
  refine VCode.freeze (id := 5) rfl ?_
  skip
  refine VCode.ret ?_
  (show Less cx _ _; refine Less.mkx (l := [0, 3]) (st' := ⟨[(4, .ptr 1 0)], [(0, .arr 46 2 (rs.map encR)), (1, .cells 46 [.val (.int .i64 ((terms.length : Int) + firstAt (fun y => decide (a.f0.f1 = y)) names)), .sl 1 ((a.f1.map (symOf terms names)).map encI)])], 2⟩) 1 hcx (Nat.le_of_ble_eq_true rfl) (by decide) ?ss ?hh rfl (by decide) rfl ⟨_, (.cellA rfl rfl rfl (leR (by rfl)) .nil), rfl, rfl, rfl⟩; (case ss => repeat (first | exact SubS.nil | refine SubS.cons rfl rfl ?_ | refine SubS.cons (ciI (by omega)) rfl ?_ | refine SubS.cons (ciB (by assumption)) rfl ?_)); (case hh => repeat (first | exact SubH.nil | refine SubH.cons rfl rfl rfl ?_)))
end Go.Proofs.Ytfjfbapiheehaaa.V
end
section
set_option linter.unusedVariables false
set_option linter.unusedSimpArgs false
namespace Go.Proofs.Ytfjfbapiheehaaa.V
open Go Go.RowKit Go.Proofs.Ytfjfbapiheehaaa.P
section
variable {P : Program}
theorem leavesD_mono {fn : Func} {tmps : Array Value} {R R' : Ending → World → Prop} (hR : ∀ e w, R e w → R' e w) : ∀ (ds : List Deferred) (u : FrameMode) (w : World), Go.Leaves P fn tmps R ds u w → Go.Leaves P fn tmps R' ds u w
 | [], .returning, w => fun ⟨v, h, r⟩ => ⟨v, h, hR _ _ r⟩
 | [], .panicking c, w => fun h => hR _ _ h
 | [], .run, w => fun h => h
 | d :: ds, u, w => fun ⟨h1, fv, cap, f, args, h2, h3, h4⟩ => ⟨h1, fv, cap, f, args, h2, h3, h4.mono fun e u' w' h => by
   cases e with
   | returned v => exact leavesD_mono hR ds _ _ h
   | panicked c => exact leavesD_mono hR ds _ _ h
   | outgrown => exact hR _ _ h⟩
theorem bodyD_mono {fn : Func} {R R' : Ending → World → Prop} (hR : ∀ e w, R e w → R' e w) (e : Exit) (a : Act) (w : World) (h : bodyPostD P fn R e a w) : bodyPostD P fn R' e a w := by
 cases e with
 | normal => exact leavesD_mono hR _ _ _ h
 | ret => exact leavesD_mono hR _ _ _ h
 | panic c => exact leavesD_mono hR _ _ _ h
 | exit id => exact h
 | goto l => exact h
 | outgrown => exact hR _ _ h
theorem VW.into {n : Nat} {cx : Cx} {ds : List Deferred} {fn : Func} {c : Code} {Q : VOut → Heap → Nat → Prop} {st : St} (h : VW P n { cx with dfs := ds } c (bodyPostD P fn (endOf { cx with dfs := ds } Q)) st) : VW P n { cx with dfs := ds } c (bodyPostD P fn (endOf cx Q)) st := fun g a w r =>
 Go.wp_mono (h g a w r) (bodyD_mono fun e w h => endOf_dfs h)
end
def ofTerms (ts : List ByteArray) (r : List Tok) : List ByteArray := r.foldl (fun l t => if t.f0 = 2 then addS l t.f1 else l) ts
def ofStep (p : List ByteArray × List ByteArray) (a : Alt) : List ByteArray × List ByteArray := (ofTerms p.1 a.f1, addS p.2 a.f0.f1)
def ofRule (terms names : List ByteArray) (rs : List Ru) (a : Alt) : List Ru := if inR rs (numOf terms names a) then rs else rs ++ [numOf terms names a]
def ofSyms (A : List Alt) : List ByteArray × List ByteArray := A.foldl ofStep ([], [])
def ofG (A : List Alt) : Gr := ⟨(ofSyms A).1, (ofSyms A).2, A.foldl (ofRule (ofSyms A).1 (ofSyms A).2) []⟩
theorem foldl_succ {α β : Type} (f : β → α → β) (s : β) {l : List α} {k : Nat} {x : α} (h : l[k]? = some x) : (l.take (k + 1)).foldl f s = f ((l.take k).foldl f s) x := by
 rw [List.take_add_one, h, List.foldl_append]; rfl
theorem addS_len (l : List ByteArray) (s : ByteArray) : (addS l s).length ≤ l.length + 1 := by
 unfold addS
 split
 ·omega
 ·simp
theorem ofTerms_len (r : List Tok) : ∀ ts, (ofTerms ts r).length ≤ ts.length + r.length := by
 induction r with
 | nil => intro ts; simp [ofTerms]
 | cons t r ih =>
  intro ts
  have h := ih (if t.f0 = 2 then addS ts t.f1 else ts)
  have h2 := addS_len ts t.f1
  unfold ofTerms at h ⊢
  rw [List.foldl_cons, List.length_cons]
  split at h
  ·rename_i hc; rw [if_pos hc]; omega
  ·rename_i hc; rw [if_neg hc]; omega
theorem Of1_idle (ms : Array Value) (hms : ms.size = 2) (w : World) :
  CallsD Try.prog 52 ms .returning w fun e u' w' => e = .returned (.tuple #[]) ∧ u' = .returning ∧ w' = w := by
 obtain ⟨m0, m1, rfl⟩ : ∃ m0 m1, ms = #[m0, m1] := by
  match ms, hms with
  | ⟨[a, b]⟩, _ => exact ⟨a, b, rfl⟩
 refine callsD_of_wpS Try.func52 rfl fun c₀ cs hu => ?_
 apply wpS_seq
 apply wpS_region
 simp [wpOpsS, go_sem, recoverD, hu, Try.ntmps52, Exit.thenS]
 apply wpS_seq
 apply wpS_region
 simp [wpOpsS, go_sem, Exit.thenS]
 refine wpS_cond (t := false) (by simp [Act.eval, Array.replicate]) ?_
 simp only [Bool.false_eq_true, if_false]
 refine wpS_of_wp (wp_skip ?_)
 cases c₀
 simp_all [bodyPostS, results, Try.results52]
abbrev sO (l : List ByteArray) : O := .arr 9 1 (l.map encS)
abbrev rsO (l : List Ru) : O := .arr 46 2 (l.map encR)
set_option maxHeartbeats 8000000 in
theorem of_v {s : ByteArray} {l : List Tok} {A : List Alt} (hs : s.size ≤ 1000000) (hf : lex_Tokens.f s = some (l, 0, 0)) (hl : l.length ≤ 1000000) (ha : read_Alts.f l (s.size : Int) = some (A, 0, 0)) (hA : A.length ≤ 100) (hA2 : ∀ a ∈ A, a.f1.length ≤ 100) (hT : (ofSyms A).1.length ≤ 40) (hN : (ofSyms A).2.length ≤ 40)
  (hin : ∀ a ∈ A, ∀ t ∈ a.f1, t.f0 ≠ 2 → 0 ≤ firstAt (fun y => decide (t.f1 = y)) (ofSyms A).2) (hR : ∀ k, ((A.take k).foldl (ofRule (ofSyms A).1 (ofSyms A).2) []).length ≤ k) (hR2 : ∀ k, ∀ r ∈ (A.take k).foldl (ofRule (ofSyms A).1 (ofSyms A).2) [], r.right.length ≤ 100)
  (hS : ∀ k, ((A.take k).foldl ofStep ([], [])).1.length ≤ 100 * k ∧ ((A.take k).foldl ofStep ([], [])).2.length ≤ k) : VCalls Try.prog 34 [.val (.string s)] [] 0 (Gives (.tup [gV (ofG A), fV 0 0])) := by
 refine VCalls.drop (VCalls.enterW (n := 96) Try.func34 rfl rfl (by simp) (fun cx hcx hdf => ?_)) rfl
 refine VW.seq ?_
 (repeat (first | ((with_reducible refine VOps.same ?_); (first | (refine VOps.nil ?_; try dsimp only [VThen, VBlock]) | refine VOps.alloc rfl rfl (by kernel_rfl) rfl (by kernel_rfl) rfl ?_)) | refine VCode.region rfl ?_))
 refine VW.defer (vs := [.ptr 0 0, .ptr 1 0]) rfl rfl rfl rfl rfl rfl (by decide) rfl hdf (fun ms hms => ?_)
 refine VW.into (VW.idle Try.func52 rfl rfl rfl (fun w => Of1_idle ms hms w) (fun c h x e => by cases e) ?_)
 (repeat (first | ((with_reducible refine VOps.same ?_); (first | refine VOps.vP (VPure.move rfl rfl) ?_)) | refine VCode.seq ?_ | refine VCode.region rfl ?_))
 refine VOps.gives rfl Try.func53 rfl (by kernel_rfl) rfl rfl rfl rfl rfl rfl rfl rfl (tokens_at hf (by unfold most; omega)) ?_
 (repeat (first | ((with_reducible refine VOps.same ?_); (first | (refine VOps.nil ?_; try dsimp only [VThen, VBlock]) | refine VOps.vP (VPure.move rfl rfl) ?_ | refine VOps.vP (VPure.assign rfl rfl) ?_ | refine VOps.vP (VPure.extract rfl rfl rfl) ?_ | refine VOps.vV (VLoad.boxA rfl rfl rfl (by rfl) (leR (by rfl)) (by decide)) ?_ | refine VOps.store rfl rfl (by kernel_rfl) rfl rfl rfl rfl rfl rfl (leR (by rfl)) rfl ?_)) | refine VCode.seq ?_ | refine VCode.region rfl ?_))
 refine VOps.pure rfl Try.func54 rfl (by kernel_rfl) rfl rfl rfl rfl rfl rfl rfl (check_v 0) ?_
 (repeat (first | ((with_reducible refine VOps.same ?_); (first | (refine VOps.nil ?_; try dsimp only [VThen, VBlock]) | refine VOps.vP (VPure.move rfl rfl) ?_ | refine VOps.vP (VPure.len_str TI.und' rfl rfl) ?_)) | refine VCode.seq ?_ | refine VCode.region rfl ?_))
 refine VOps.gives rfl Try.func55 rfl (by kernel_rfl) rfl rfl rfl rfl rfl rfl rfl rfl (alts_at ha (by unfold most; omega) (fun x hx => by have := hA2 x hx; unfold most; omega)) ?_
 (repeat (first | ((with_reducible refine VOps.same ?_); (first | (refine VOps.nil ?_; try dsimp only [VThen, VBlock]) | refine VOps.vP (VPure.move rfl rfl) ?_ | refine VOps.vP (VPure.assign rfl rfl) ?_ | refine VOps.vP (VPure.extract rfl rfl rfl) ?_ | refine VOps.vV (VLoad.boxA rfl rfl rfl (by rfl) (leR (by rfl)) (by decide)) ?_ | refine VOps.store rfl rfl (by kernel_rfl) rfl rfl rfl rfl rfl rfl (leR (by rfl)) rfl ?_)) | refine VCode.seq ?_ | refine VCode.region rfl ?_))
 refine VOps.pure rfl Try.func54 rfl (by kernel_rfl) rfl rfl rfl rfl rfl rfl rfl (check_v 0) ?_
 (repeat (first | ((with_reducible refine VOps.same ?_); (first | (refine VOps.nil ?_; try dsimp only [VThen, VBlock]) | refine VOps.vP (VPure.move rfl rfl) ?_ | refine VOps.vP (VPure.len_map TI.und' rfl rfl) ?_)) | refine VCode.seq ?_ | refine VCode.region rfl ?_))
 refine VCode.nilCell (id := 0) 0 9 1 rfl rfl rfl rfl ?_
 refine VCode.nilCell (id := 0) 1 9 1 rfl rfl rfl rfl ?_
 (repeat (first | refine VCode.block ?_))
 refine VCode.loop (fun m st => ∃ (k : Nat) (ts ns : List ByteArray), k ≤ A.length ∧ m = A.length - k ∧ (ts, ns) = (A.take k).foldl ofStep ([], []) ∧ st = ⟨[(32, .val (.int .i64 (k : Int))), (31, .val (.int .i64 (A.length : Int))), (30, .sl 4 (A.map encAlt)), (5, .sl 4 (A.map encAlt)), (2, .ptr 0 0), (3, .ptr 1 0)], [(0, .cells 25 [.ref 2, .ref 3, .val (.slice none 0 0)]), (1, .cells 53 [.val (.int .i64 0), .val (.int .i64 0)]), (2, .arr 9 1 (ts.map encS)), (3, .arr 9 1 (ns.map encS))], 4⟩) A.length ?_ ?_
 ·(refine Less.mk (l := [0, 1, 2, 3]) hcx ?ss ?hh rfl (by decide) rfl ⟨0, [], [], by omega, by omega, rfl, rfl⟩; (case ss => repeat (first | exact SubS.nil | refine SubS.cons rfl rfl ?_ | refine SubS.cons (ciI (by omega)) rfl ?_ | refine SubS.cons (ciB (by assumption)) rfl ?_)); (case hh => repeat (first | exact SubH.nil | refine SubH.cons rfl rfl rfl ?_)))
 rintro m st ⟨k, ts, ns, hk, rfl, hst, rfl⟩
 have hlen := hS k
 rw [← hst] at hlen
 simp only at hlen
 cases hq : A[k]? with
 | some a =>
  have hlt : k < A.length := (List.getElem?_eq_some_iff.1 hq).1
  have har := hA2 a (List.mem_of_getElem? hq)
  have hnx := foldl_succ ofStep ([], []) hq
  rw [← hst] at hnx
  (repeat (first | ((with_reducible refine VOps.same ?_); (first | (refine VOps.nil ?_; try dsimp only [VThen, VBlock]) | refine VOps.vP (VPure.lss rfl rfl rfl) ?_)) | refine VCode.seq ?_ | refine VCode.region rfl ?_))
  refine VCode.cond_t rfl (decide_eq_true (by omega)) ?_
  (repeat (first | ((with_reducible refine VOps.same ?_); (first | (refine VOps.nil ?_; try dsimp only [VThen, VBlock]) | refine VOps.vP (VPure.idx_map rfl rfl rfl (by assumption)) ?_ | refine VOps.vP (VPure.field_ptr rfl rfl rfl) ?_ | refine VOps.vV (VLoad.box1 rfl rfl rfl rfl (by rfl) (by decide)) ?_ | refine VOps.vV (VLoad.elA rfl rfl (by rfl) (leR (by rfl))) ?_ | refine VOps.alloc rfl rfl (by kernel_rfl) rfl (by kernel_rfl) rfl ?_ | refine VOps.store rfl rfl (by kernel_rfl) rfl rfl rfl rfl rfl rfl (leR (by rfl)) rfl ?_)) | refine VCode.seq ?_ | refine VCode.region rfl ?_ | refine VCode.block ?_ | refine VCode.skip ?_))
  (refine VOps.callL (ch := [(0, sO ns)]) [3] rfl Try.func56 rfl (by kernel_rfl) rfl rfl rfl rfl ?hh (by decide) rfl rfl rfl (addedS_v ns a.f0.f1 (by omega)) rfl (by rfl) rfl ?_; (case hh => repeat (first | exact SubH.nil | refine SubH.cons rfl rfl rfl ?_)))
  (repeat (first | ((with_reducible refine VOps.same ?_); (first | (refine VOps.nil ?_; try dsimp only [VThen, VBlock]) | refine VOps.vP (VPure.move rfl rfl) ?_ | refine VOps.vP (VPure.len_map TI.und' rfl rfl) ?_ | refine VOps.vP (VPure.field_ptr rfl rfl rfl) ?_ | refine VOps.vV (VLoad.box1 rfl rfl rfl rfl (by rfl) (by decide)) ?_ | refine VOps.store rfl rfl (by kernel_rfl) rfl rfl rfl rfl rfl rfl (leR (by rfl)) rfl ?_)) | refine VCode.seq ?_ | refine VCode.region rfl ?_ | refine VCode.block ?_))
  refine VCode.loop (fun m st => ∃ (j : Nat) (ts2 : List ByteArray), j ≤ a.f1.length ∧ m = a.f1.length - j ∧ ts2 = ofTerms ts (a.f1.take j) ∧ st = ⟨[(46, .val (.int .i64 (j : Int))), (45, .val (.int .i64 (a.f1.length : Int))), (44, .sl 3 (a.f1.map encTok)), (32, .val (.int .i64 (k : Int))), (31, .val (.int .i64 (A.length : Int))), (30, .sl 4 (A.map encAlt)), (5, .sl 4 (A.map encAlt)), (2, .ptr 0 0), (3, .ptr 1 0)], [(0, .cells 25 [.ref 2, .ref 3, .val (.slice none 0 0)]), (1, .cells 53 [.val (.int .i64 0), .val (.int .i64 0)]), (2, .arr 9 1 (ts2.map encS)), (3, .arr 9 1 ((addS ns a.f0.f1).map encS))], 4⟩) a.f1.length ?_ ?_
  ·(refine Less.mk (l := [0, 1, 2, 5]) hcx ?ss ?hh rfl (by decide) rfl ⟨0, ts, by omega, by omega, rfl, rfl⟩; (case ss => repeat (first | exact SubS.nil | refine SubS.cons rfl rfl ?_ | refine SubS.cons (ciI (by omega)) rfl ?_ | refine SubS.cons (ciB (by assumption)) rfl ?_)); (case hh => repeat (first | exact SubH.nil | refine SubH.cons rfl rfl rfl ?_)))
  rintro m st ⟨j, ts2, hj, rfl, hst2, rfl⟩
  have hl2 := ofTerms_len (a.f1.take j) ts
  rw [← hst2, List.length_take] at hl2
  cases hq2 : a.f1[j]? with
  | some t =>
   have hlt2 : j < a.f1.length := (List.getElem?_eq_some_iff.1 hq2).1
   have hnx2 : ofTerms ts (a.f1.take (j + 1)) = if t.f0 = 2 then addS ts2 t.f1 else ts2 := by
    have := foldl_succ (fun (l : List ByteArray) (t : Tok) => if t.f0 = 2 then addS l t.f1 else l) ts hq2
    unfold ofTerms at hst2 ⊢
    rw [this, ← hst2]
   (repeat (first | ((with_reducible refine VOps.same ?_); (first | (refine VOps.nil ?_; try dsimp only [VThen, VBlock]) | refine VOps.vP (VPure.lss rfl rfl rfl) ?_)) | refine VCode.seq ?_ | refine VCode.region rfl ?_))
   refine VCode.cond_t rfl (decide_eq_true (by omega)) ?_
   (repeat (first | ((with_reducible refine VOps.same ?_); (first | (refine VOps.nil ?_; try dsimp only [VThen, VBlock]) | refine VOps.vP (VPure.idx_map rfl rfl rfl (by assumption)) ?_ | refine VOps.vP (VPure.field_ptr rfl rfl rfl) ?_ | refine VOps.vV (VLoad.box1 rfl rfl rfl rfl (by rfl) (by decide)) ?_ | refine VOps.vV (VLoad.elA rfl rfl (by rfl) (leR (by rfl))) ?_ | refine VOps.vP (VPure.eqi rfl rfl rfl) ?_ | refine VOps.alloc rfl rfl (by kernel_rfl) rfl (by kernel_rfl) rfl ?_ | refine VOps.store rfl rfl (by kernel_rfl) rfl rfl rfl rfl rfl rfl (leR (by rfl)) rfl ?_)) | refine VCode.seq ?_ | refine VCode.region rfl ?_ | refine VCode.block ?_ | refine VCode.skip ?_))
   refine VCode.cond rfl (fun hb => ?_) (fun hb => ?_)
   ·rw [if_pos (of_decide_eq_true hb)] at hnx2
    (repeat (first | ((with_reducible refine VOps.same ?_); (first | refine VOps.vP (VPure.field_ptr rfl rfl rfl) ?_ | refine VOps.vV (VLoad.box1 rfl rfl rfl rfl (by rfl) (by decide)) ?_)) | refine VCode.region rfl ?_))
    (refine VOps.callL (ch := [(0, sO ts2)]) [2] rfl Try.func56 rfl (by kernel_rfl) rfl rfl rfl rfl ?hh (by decide) rfl rfl rfl (addedS_v ts2 t.f1 (by omega)) rfl (by rfl) rfl ?_; (case hh => repeat (first | exact SubH.nil | refine SubH.cons rfl rfl rfl ?_)))
    (repeat (first | ((with_reducible refine VOps.same ?_); (first | (refine VOps.nil ?_; try dsimp only [VThen, VBlock]) | refine VOps.vP (VPure.move rfl rfl) ?_ | refine VOps.vP (VPure.field_ptr rfl rfl rfl) ?_ | refine VOps.vP (VPure.addK rfl rfl rfl (by omega)) ?_ | refine VOps.store rfl rfl (by kernel_rfl) rfl rfl rfl rfl rfl rfl (leR (by rfl)) rfl ?_)) | refine VCode.region rfl ?_))
    (refine Less.mk (l := [0, 1, 5, 3]) hcx ?ss ?hh rfl (by decide) rfl ⟨_, ?_, j + 1, addS ts2 t.f1, by omega, rfl, hnx2.symm, rfl⟩; (case ss => repeat (first | exact SubS.nil | refine SubS.cons rfl rfl ?_ | refine SubS.cons (ciI (by omega)) rfl ?_ | refine SubS.cons (ciB (by assumption)) rfl ?_)); (case hh => repeat (first | exact SubH.nil | refine SubH.cons rfl rfl rfl ?_)))
    omega
   ·rw [if_neg (of_decide_eq_false hb)] at hnx2
    (repeat (first | ((with_reducible refine VOps.same ?_); (first | (refine VOps.nil ?_; try dsimp only [VThen, VBlock]) | refine VOps.vP (VPure.move rfl rfl) ?_ | refine VOps.vP (VPure.addK rfl rfl rfl (by omega)) ?_)) | refine VCode.region rfl ?_ | refine VCode.skip ?_))
    (refine Less.mk (l := [0, 1, 2, 3]) hcx ?ss ?hh rfl (by decide) rfl ⟨_, ?_, j + 1, ts2, by omega, rfl, hnx2.symm, rfl⟩; (case ss => repeat (first | exact SubS.nil | refine SubS.cons rfl rfl ?_ | refine SubS.cons (ciI (by omega)) rfl ?_ | refine SubS.cons (ciB (by assumption)) rfl ?_)); (case hh => repeat (first | exact SubH.nil | refine SubH.cons rfl rfl rfl ?_)))
    omega
  | none =>
   have hge : a.f1.length ≤ j := List.getElem?_eq_none_iff.1 hq2
   rw [List.take_of_length_le hge] at hst2
   (repeat (first | ((with_reducible refine VOps.same ?_); (first | (refine VOps.nil ?_; try dsimp only [VThen, VBlock]) | refine VOps.vP (VPure.lss rfl rfl rfl) ?_)) | refine VCode.seq ?_ | refine VCode.region rfl ?_))
   refine VCode.cond_f rfl (decide_eq_false (by omega)) ?_
   (repeat (first | ((with_reducible refine VOps.same ?_); (first | (refine VOps.nil ?_; try dsimp only [VThen, VBlock]) | refine VOps.vP (VPure.move rfl rfl) ?_ | refine VOps.vP (VPure.addK rfl rfl rfl (by omega)) ?_)) | refine VCode.region rfl ?_ | refine VCode.exit ?_))
   (refine Less.mk (l := [0, 1, 2, 3]) hcx ?ss ?hh rfl (by decide) rfl ⟨_, ?_, k + 1, ts2, addS ns a.f0.f1, by omega, rfl, by rw [hnx, hst2]; rfl, rfl⟩; (case ss => repeat (first | exact SubS.nil | refine SubS.cons rfl rfl ?_ | refine SubS.cons (ciI (by omega)) rfl ?_ | refine SubS.cons (ciB (by assumption)) rfl ?_)); (case hh => repeat (first | exact SubH.nil | refine SubH.cons rfl rfl rfl ?_)))
   omega
 | none =>
  have hge : A.length ≤ k := List.getElem?_eq_none_iff.1 hq
  rw [List.take_of_length_le hge] at hst
  have hts : ts = (ofSyms A).1 := by unfold ofSyms; rw [← hst]
  have hns : ns = (ofSyms A).2 := by unfold ofSyms; rw [← hst]
  clear hst hlen hS
  subst hts
  subst hns
  (repeat (first | ((with_reducible refine VOps.same ?_); (first | (refine VOps.nil ?_; try dsimp only [VThen, VBlock]) | refine VOps.vP (VPure.lss rfl rfl rfl) ?_)) | refine VCode.seq ?_ | refine VCode.region rfl ?_))
  refine VCode.cond_f rfl (decide_eq_false (by omega)) ?_
  (repeat (first | ((with_reducible refine VOps.same ?_); (first | (refine VOps.nil ?_; try dsimp only [VThen, VBlock]) | refine VOps.vP (VPure.move rfl rfl) ?_ | refine VOps.vP (VPure.len_map TI.und' rfl rfl) ?_)) | refine VCode.seq ?_ | refine VCode.region rfl ?_ | refine VCode.exit ?_))
  refine VCode.freeze (id := 2) rfl ?_
  refine VCode.freeze (id := 3) rfl ?_
  refine VCode.nilCell (id := 0) 2 46 2 rfl rfl rfl rfl ?_
  (repeat (first | refine VCode.block ?_))
  refine VCode.loop (fun m st => ∃ (k : Nat) (rs : List Ru), k ≤ A.length ∧ m = A.length - k ∧ rs = (A.take k).foldl (ofRule (ofSyms A).1 (ofSyms A).2) [] ∧ st = ⟨[(63, .val (.int .i64 (k : Int))), (62, .val (.int .i64 (A.length : Int))), (61, .sl 4 (A.map encAlt)), (2, .ptr 0 0), (3, .ptr 1 0)], [(0, .cells 25 [.sl 1 ((ofSyms A).1.map encS), .sl 1 ((ofSyms A).2.map encS), .ref 2]), (1, .cells 53 [.val (.int .i64 0), .val (.int .i64 0)]), (2, .arr 46 2 (rs.map encR))], 3⟩) A.length ?_ ?_
  ·(refine Less.mk (l := [0, 1, 4]) hcx ?ss ?hh rfl (by decide) rfl ⟨0, [], by omega, by omega, rfl, rfl⟩; (case ss => repeat (first | exact SubS.nil | refine SubS.cons rfl rfl ?_ | refine SubS.cons (ciI (by omega)) rfl ?_ | refine SubS.cons (ciB (by assumption)) rfl ?_)); (case hh => repeat (first | exact SubH.nil | refine SubH.cons rfl rfl rfl ?_)))
  clear hk hge hq
  rintro m st ⟨k, rs, hk, rfl, hst, rfl⟩
  have hrl := hR k
  have hrr := hR2 k
  rw [← hst] at hrl hrr
  cases hq : A[k]? with
  | some a =>
   have hlt : k < A.length := (List.getElem?_eq_some_iff.1 hq).1
   have har := hA2 a (List.mem_of_getElem? hq)
   have hnx := foldl_succ (ofRule (ofSyms A).1 (ofSyms A).2) [] hq
   rw [← hst] at hnx
   have hnr : (numOf (ofSyms A).1 (ofSyms A).2 a).right.length ≤ 100 := by unfold numOf; simp only [List.length_map]; exact har
   (repeat (first | ((with_reducible refine VOps.same ?_); (first | (refine VOps.nil ?_; try dsimp only [VThen, VBlock]) | refine VOps.vP (VPure.lss rfl rfl rfl) ?_)) | refine VCode.seq ?_ | refine VCode.region rfl ?_))
   refine VCode.cond_t rfl (decide_eq_true (by omega)) ?_
   (repeat (first | ((with_reducible refine VOps.same ?_); (first | (refine VOps.nil ?_; try dsimp only [VThen, VBlock]) | refine VOps.vP (VPure.idx_map rfl rfl rfl (by assumption)) ?_ | refine VOps.vV (VLoad.elA rfl rfl (by rfl) (leR (by rfl))) ?_ | refine VOps.vV (VLoad.boxA rfl rfl rfl (by rfl) (leR (by rfl)) (by decide)) ?_ | refine VOps.alloc rfl rfl (by kernel_rfl) rfl (by kernel_rfl) rfl ?_ | refine VOps.store rfl rfl (by kernel_rfl) rfl rfl rfl rfl rfl rfl (leR (by rfl)) rfl ?_)) | refine VCode.seq ?_ | refine VCode.region rfl ?_ | refine VCode.block ?_ | refine VCode.skip ?_))
   (refine VOps.callL (ch := [(0, rsO rs)]) [2] rfl Try.func57 rfl (by kernel_rfl) rfl rfl rfl rfl ?hh (by decide) rfl rfl rfl (numbered_v (ofSyms A).1 (ofSyms A).2 rs a (by omega) (by omega) (by omega) (hin a (List.mem_of_getElem? hq))) rfl (by rfl) rfl ?_; (case hh => repeat (first | exact SubH.nil | refine SubH.cons rfl rfl rfl ?_)))
   (repeat (first | ((with_reducible refine VOps.same ?_); (first | (refine VOps.nil ?_; try dsimp only [VThen, VBlock]) | refine VOps.vP (VPure.field_ptr rfl rfl rfl) ?_ | refine VOps.vV (VLoad.box1 rfl rfl rfl rfl (by rfl) (by decide)) ?_ | refine VOps.vV (VLoad.boxA rfl rfl rfl (by rfl) (leR (by rfl)) (by decide)) ?_ | refine VOps.alloc rfl rfl (by kernel_rfl) rfl (by kernel_rfl) rfl ?_ | refine VOps.store rfl rfl (by kernel_rfl) rfl rfl rfl rfl rfl rfl (leR (by rfl)) rfl ?_)) | refine VCode.seq ?_ | refine VCode.region rfl ?_))
   refine VOps.pure rfl Try.func58 rfl (by kernel_rfl) rfl rfl rfl rfl rfl rfl rfl (ghas_v rs (numOf (ofSyms A).1 (ofSyms A).2 a) (by omega) (fun x hx => by have := hrr x hx; omega)) ?_
   (repeat (first | ((with_reducible refine VOps.same ?_); (first | (refine VOps.nil ?_; try dsimp only [VThen, VBlock]) | refine VOps.vP (VPure.not rfl rfl) ?_))))
   refine VCode.cond rfl (fun hb => ?_) (fun hb => ?_)
   ·have hr2 : ofRule (ofSyms A).1 (ofSyms A).2 rs a = rs ++ [numOf (ofSyms A).1 (ofSyms A).2 a] := by unfold ofRule; rw [if_neg (by simpa using hb)]
    rw [hr2] at hnx
    (repeat (first | ((with_reducible refine VOps.same ?_); (first | refine VOps.vP (VPure.field_ptr rfl rfl rfl) ?_ | refine VOps.vV (VLoad.box1 rfl rfl rfl rfl (by rfl) (by decide)) ?_ | refine VOps.vV (VLoad.boxA rfl rfl rfl (by rfl) (leR (by rfl)) (by decide)) ?_ | refine VOps.one rfl rfl (by kernel_rfl) rfl (by rfl) (by decide) (by decide) rfl (by rfl) (by rfl) ?_)) | refine VCode.region rfl ?_))
    refine VOps.append (zs := (rs ++ [numOf (ofSyms A).1 (ofSyms A).2 a]).map encR) rfl rfl (by kernel_rfl) rfl (by rfl) (by decide) rfl (.arr rfl) rfl (.arr rfl) (by simp only [List.length_append, List.length_cons, List.length_nil, List.length_map]; unfold most; omega) (by simp only [List.length_append, List.length_cons, List.length_nil, List.length_map]; unfold most; omega) rfl ( by rw [List.map_append]; rfl) ?_
    (repeat (first | ((with_reducible refine VOps.same ?_); (first | (refine VOps.nil ?_; try dsimp only [VThen, VBlock]) | refine VOps.vP (VPure.move rfl rfl) ?_ | refine VOps.vP (VPure.field_ptr rfl rfl rfl) ?_ | refine VOps.vP (VPure.addK rfl rfl rfl (by omega)) ?_ | refine VOps.store rfl rfl (by kernel_rfl) rfl rfl rfl rfl rfl rfl (leR (by rfl)) rfl ?_)) | refine VCode.region rfl ?_))
    (refine Less.mk (l := [0, 1, 7]) hcx ?ss ?hh rfl (by decide) rfl ⟨_, ?_, k + 1, rs ++ [numOf (ofSyms A).1 (ofSyms A).2 a], by omega, rfl, hnx.symm, rfl⟩; (case ss => repeat (first | exact SubS.nil | refine SubS.cons rfl rfl ?_ | refine SubS.cons (ciI (by omega)) rfl ?_ | refine SubS.cons (ciB (by assumption)) rfl ?_)); (case hh => repeat (first | exact SubH.nil | refine SubH.cons rfl rfl rfl ?_)))
    omega
   ·have hr2 : ofRule (ofSyms A).1 (ofSyms A).2 rs a = rs := by unfold ofRule; rw [if_pos (by simpa using hb)]
    rw [hr2] at hnx
    (repeat (first | ((with_reducible refine VOps.same ?_); (first | (refine VOps.nil ?_; try dsimp only [VThen, VBlock]) | refine VOps.vP (VPure.move rfl rfl) ?_ | refine VOps.vP (VPure.addK rfl rfl rfl (by omega)) ?_)) | refine VCode.region rfl ?_ | refine VCode.skip ?_))
    (refine Less.mk (l := [0, 1, 2]) hcx ?ss ?hh rfl (by decide) rfl ⟨_, ?_, k + 1, rs, by omega, rfl, hnx.symm, rfl⟩; (case ss => repeat (first | exact SubS.nil | refine SubS.cons rfl rfl ?_ | refine SubS.cons (ciI (by omega)) rfl ?_ | refine SubS.cons (ciB (by assumption)) rfl ?_)); (case hh => repeat (first | exact SubH.nil | refine SubH.cons rfl rfl rfl ?_)))
    omega
  | none =>
   have hge : A.length ≤ k := List.getElem?_eq_none_iff.1 hq
   rw [List.take_of_length_le hge] at hst
   have hfin : ofG A = ⟨(ofSyms A).1, (ofSyms A).2, rs⟩ := by unfold ofG; rw [hst]
   (repeat (first | ((with_reducible refine VOps.same ?_); (first | (refine VOps.nil ?_; try dsimp only [VThen, VBlock]) | refine VOps.vP (VPure.lss rfl rfl rfl) ?_)) | refine VCode.seq ?_ | refine VCode.region rfl ?_))
   refine VCode.cond_f rfl (decide_eq_false (by omega)) ?_
   (repeat (first | ((with_reducible refine VOps.same ?_); (first | refine VOps.vP (VPure.move rfl rfl) ?_ | refine VOps.vP (VPure.len_map TI.und' rfl rfl) ?_ | refine VOps.vP (VPure.field_ptr rfl rfl rfl) ?_ | refine VOps.vV (VLoad.box1 rfl rfl rfl rfl (by rfl) (by decide)) ?_ | refine VOps.vP (VPure.gtr rfl rfl rfl) ?_)) | refine VCode.seq ?_ | refine VCode.region rfl ?_ | refine VCode.exit ?_))
   refine VOps.says (d := 86) (v := .val (.bool false)) rfl (by rw [decide_eq_false (by omega)]) ?_
   (repeat (first | ((with_reducible refine VOps.same ?_); (first | (refine VOps.nil ?_; try dsimp only [VThen, VBlock]) | refine VOps.vP (VPure.len_map TI.und' rfl rfl) ?_ | refine VOps.vP (VPure.field_ptr rfl rfl rfl) ?_ | refine VOps.vV (VLoad.box1 rfl rfl rfl rfl (by rfl) (by decide)) ?_ | refine VOps.vP (VPure.gtr rfl rfl rfl) ?_ | refine VOps.vP (VPure.pick_f rfl rfl rfl) ?_))))
   refine VCode.cond_f rfl (decide_eq_false (by omega)) ?_
   refine VCode.freeze (id := 2) rfl ?_
   (repeat (first | ((with_reducible refine VOps.same ?_); (first | (refine VOps.nil ?_; try dsimp only [VThen, VBlock]) | refine VOps.vV (VLoad.boxA rfl rfl rfl (by rfl) (leR (by rfl)) (by decide)) ?_ | refine VOps.vP (VPure.buildC rfl (by kernel_rfl) rfl (by rfl)) ?_ | refine VOps.store rfl rfl (by kernel_rfl) rfl rfl rfl rfl rfl rfl (leR (by rfl)) rfl ?_)) | refine VCode.seq ?_ | refine VCode.region rfl ?_ | refine VCode.skip ?_))
   refine VCode.ret ?_
   show Less _ _ _
   refine Less.mk (l := [0, 1]) (st' := ⟨[(2, .ptr 0 0), (3, .ptr 1 0)], [(0, .cells 25 [.sl 1 ((ofSyms A).1.map encS), .sl 1 ((ofSyms A).2.map encS), .sl 2 (rs.map encR)]), (1, .cells 53 [.val (.int .i64 0), .val (.int .i64 0)])], 2⟩) hcx ?ss ?hh rfl (by decide) rfl ⟨_, .cellA rfl rfl rfl (leR (by rfl)) (.cellA rfl rfl rfl (leR (by rfl)) .nil), ?fin⟩
   case fin => rw [hfin]; rfl
   case ss => repeat (first | exact SubS.nil | refine SubS.cons rfl rfl ?_)
   case hh => repeat (first | exact SubH.nil | refine SubH.cons rfl rfl rfl ?_)
end Go.Proofs.Ytfjfbapiheehaaa.V
end
section
namespace Go.Proofs.Ytfjfbapiheehaaa.DG
inductive Path (E : Nat → Nat → Prop) : Nat → Nat → Prop
 | one {a b} : E a b → Path E a b
 | more {a b c} : Path E a b → E b c → Path E a c
theorem Path.trans {E : Nat → Nat → Prop} {a b c : Nat} (h : Path E a b) (h' : Path E b c) : Path E a c := by
 induction h' with
 | one e => exact .more h e
 | more _ e ih => exact .more ih e
theorem Path.mono {E F : Nat → Nat → Prop} (hEF : ∀ a b, E a b → F a b) {a b : Nat} (h : Path E a b) : Path F a b := by
 induction h with
 | one e => exact .one (hEF _ _ e)
 | more _ e ih => exact .more ih (hEF _ _ e)
theorem Path.last {E : Nat → Nat → Prop} {a b : Nat} (h : Path E a b) : ∃ c, E c b := by
 cases h with
 | one e => exact ⟨_, e⟩
 | more _ e => exact ⟨_, e⟩
theorem Path.head {E : Nat → Nat → Prop} {a b : Nat} (h : Path E a b) : ∃ c, E a c := by
 induction h with
 | one e => exact ⟨_, e⟩
 | more _ _ ih => exact ih
def Via (E : Nat → Nat → Prop) : Nat → Nat → Nat → Prop
 | 0, i, j => E i j
 | m + 1, i, j => Via E m i j ∨ (Via E m i m ∧ Via E m m j)
theorem via_mono {E : Nat → Nat → Prop} (m d : Nat) {i j : Nat} (h : Via E m i j) : Via E (m + d) i j := by
 induction d with
 | zero => exact h
 | succ d ih => exact Or.inl ih
theorem via_path {E : Nat → Nat → Prop} (m : Nat) : ∀ {i j : Nat}, Via E m i j → Path E i j := by
 induction m with
 | zero => intro i j h; exact .one h
 | succ m ih =>
  intro i j h
  rcases h with h | ⟨h, h'⟩
  ·exact ih h
  ·exact (ih h).trans (ih h')
theorem via_trans {E : Nat → Nat → Prop} (m : Nat) : ∀ {i k j : Nat}, k < m → Via E m i k → Via E m k j → Via E m i j := by
 induction m with
 | zero => intro i k j h; omega
 | succ m ih =>
  intro i k j hk h h'
  by_cases hkm : k = m
  ·subst hkm
   have h1 : Via E k i k := by rcases h with h | ⟨h, _⟩ <;> exact h
   have h2 : Via E k k j := by rcases h' with h' | ⟨_, h'⟩ <;> exact h'
   exact Or.inr ⟨h1, h2⟩
  ·have hk' : k < m := by omega
   rcases h with h | ⟨h, h3⟩ <;> rcases h' with h' | ⟨h', h4⟩
   ·exact Or.inl (ih hk' h h')
   ·exact Or.inr ⟨ih hk' h h', h4⟩
   ·exact Or.inr ⟨h, ih hk' h3 h'⟩
   ·exact Or.inr ⟨h, h4⟩
theorem path_via {E : Nat → Nat → Prop} (n : Nat) (hE : ∀ a b, E a b → a < n ∧ b < n) {i j : Nat} (h : Path E i j) : Via E n i j := by
 have h0 : ∀ {a b}, E a b → Via E n a b := fun {a b} e => by have := via_mono 0 n (E := E) (i := a) (j := b) e; rwa [Nat.zero_add] at this
 induction h with
 | one e => exact h0 e
 | more h e ih => exact via_trans n (hE _ _ e).1 ih (h0 e)
def visit (x : Nat) (s : List Nat × List Bool) (e : Nat × Nat) : List Nat × List Bool :=
 if e.1 = x ∧ s.2.getD e.2 true = false then (s.1 ++ [e.2], s.2.set e.2 true) else s
def bfs (l : List (Nat × Nat)) : Nat → List Nat → List Bool → Option (List Bool)
 | 0, _, _ => none
 | _ + 1, [], out => some out
 | k + 1, x :: q, out => let s := l.foldl (visit x) (q, out); bfs l k s.1 s.2
def falses (out : List Bool) : Nat := out.countP fun b => !b
theorem falses_set (out : List Bool) : ∀ (b : Nat), out.getD b true = false → falses (out.set b true) + 1 = falses out := by
 induction out with
 | nil => intro b h; simp at h
 | cons c out ih =>
  intro b h
  cases b with
  | zero => simp at h; subst h; simp [falses]
  | succ b =>
   simp only [List.getD_cons_succ] at h
   have := ih b h
   simp only [falses, List.set_cons_succ, List.countP_cons] at this ⊢
   omega
theorem visit_len (x : Nat) (s : List Nat × List Bool) (e : Nat × Nat) : (visit x s e).1.length + falses (visit x s e).2 = s.1.length + falses s.2 ∧ (visit x s e).2.length = s.2.length := by
 unfold visit
 split
 ·rename_i h
  have := falses_set s.2 e.2 h.2
  simp; omega
 ·exact ⟨rfl, rfl⟩
theorem visits_len (x : Nat) (l : List (Nat × Nat)) : ∀ s, (l.foldl (visit x) s).1.length + falses (l.foldl (visit x) s).2 = s.1.length + falses s.2 ∧ (l.foldl (visit x) s).2.length = s.2.length := by
 induction l with
 | nil => intro s; exact ⟨rfl, rfl⟩
 | cons e l ih =>
  intro s
  have h1 := visit_len x s e
  have h2 := ih (visit x s e)
  simp only [List.foldl_cons]
  omega
theorem bfs_some (l : List (Nat × Nat)) : ∀ (k : Nat) (q : List Nat) (out : List Bool), q.length + falses out < k → ∃ r, bfs l k q out = some r ∧ r.length = out.length := by
 intro k
 induction k with
 | zero => intro q out h; omega
 | succ k ih =>
  intro q out h
  cases q with
  | nil => exact ⟨out, rfl, rfl⟩
  | cons x q =>
   have := visits_len x l (q, out)
   simp only [List.length_cons] at h this
   obtain ⟨r, hr, hl⟩ := ih (l.foldl (visit x) (q, out)).1 (l.foldl (visit x) (q, out)).2 (by omega)
   exact ⟨r, hr, by omega⟩
def Met (l : List (Nat × Nat)) (a : Nat) (x? : Option (Nat × List (Nat × Nat))) (q : List Nat) (out : List Bool) : Prop :=
 (∀ b, out.getD b false = true → Path (fun a b => (a, b) ∈ l) a b) ∧
 (∀ y ∈ q, y = a ∨ out.getD y false = true) ∧
 (∀ y, (y = a ∨ out.getD y false = true) → y ∈ q ∨ (∀ z, (y, z) ∈ l → z < out.length → (out.getD z false = true ∨ (∃ x m, x? = some (x, m) ∧ y = x ∧ (y, z) ∈ m))))
theorem getD_set (out : List Bool) (b c : Nat) (h : out.getD b true = false) : (out.set b true).getD c false = true ↔ (c = b ∨ out.getD c false = true) := by
 have hb : b < out.length := by
  rcases Nat.lt_or_ge b out.length with h1 | h1
  ·exact h1
  ·rw [List.getD_eq_getElem?_getD, List.getElem?_eq_none h1] at h; simp at h
 simp only [List.getD_eq_getElem?_getD, List.getElem?_set]
 by_cases e : b = c
 ·subst e; simp [hb]
 ·simp [e]; intro h; exact absurd h.symm e
theorem visits_met (l : List (Nat × Nat)) (a x : Nat) (hx : x = a ∨ Path (fun a b => (a, b) ∈ l) a x) : ∀ (m : List (Nat × Nat)) (q : List Nat) (out : List Bool), (∀ e ∈ m, e ∈ l) → Met l a (some (x, m)) q out → Met l a none (m.foldl (visit x) (q, out)).1 (m.foldl (visit x) (q, out)).2 := by
 intro m
 induction m with
 | nil =>
  intro q out _ ⟨h1, h2, h3⟩
  refine ⟨h1, h2, fun y hy => ?_⟩
  rcases h3 y hy with h | h
  ·exact Or.inl h
  ·refine Or.inr fun z hz hlt => ?_
   rcases h z hz hlt with h | ⟨x', m', he, _, hm⟩
   ·exact Or.inl h
   ·simp at he; obtain ⟨_, rfl⟩ := he; cases hm
 | cons e m ih =>
  intro q out hm ⟨h1, h2, h3⟩
  simp only [List.foldl_cons]
  obtain ⟨e1, e2⟩ := e
  by_cases hv : e1 = x ∧ out.getD e2 true = false
  ·have ev : visit x (q, out) (e1, e2) = (q ++ [e2], out.set e2 true) := by unfold visit; rw [if_pos hv]
   rw [ev]
   have hp : Path (fun a b => (a, b) ∈ l) a e2 := by
    have he : (x, e2) ∈ l := by rw [← hv.1]; exact hm _ (by simp)
    rcases hx with rfl | hx
    ·exact .one he
    ·exact .more hx he
   refine ih _ _ (fun e he => hm e (by simp [he])) ⟨fun b hb => ?_, fun y hy => ?_, fun y hy => ?_⟩
   ·rcases (getD_set out e2 b hv.2).1 hb with rfl | hb
    ·exact hp
    ·exact h1 b hb
   ·rcases List.mem_append.1 hy with hy | hy
    ·rcases h2 y hy with h | h
     ·exact Or.inl h
     ·exact Or.inr ((getD_set out e2 y hv.2).2 (Or.inr h))
    ·simp only [List.mem_singleton] at hy
     exact Or.inr ((getD_set out e2 y hv.2).2 (Or.inl hy))
   ·by_cases hy2 : y = e2
    ·exact Or.inl (by simp [hy2])
    ·have hy' : y = a ∨ out.getD y false = true := by
      rcases hy with hy | hy
      ·exact Or.inl hy
      ·rcases (getD_set out e2 y hv.2).1 hy with h | h
       ·exact absurd h hy2
       ·exact Or.inr h
     rcases h3 y hy' with h | h
     ·exact Or.inl (by simp [h])
     ·refine Or.inr fun z hz hlt => ?_
      rw [List.length_set] at hlt
      by_cases hz2 : z = e2
      ·exact Or.inl ((getD_set out e2 z hv.2).2 (Or.inl hz2))
      ·rcases h z hz hlt with h | ⟨x', m', he, hyx, hm'⟩
       ·exact Or.inl ((getD_set out e2 z hv.2).2 (Or.inr h))
       ·simp at he
        refine Or.inr ⟨x, m, rfl, by rw [he.1]; exact hyx, ?_⟩
        rw [← he.2] at hm'
        rcases List.mem_cons.1 hm' with h | h
        ·simp at h; exact absurd h.2 hz2
        ·exact h
  ·have ev : visit x (q, out) (e1, e2) = (q, out) := by unfold visit; rw [if_neg hv]
   rw [ev]
   refine ih _ _ (fun e he => hm e (by simp [he])) ⟨h1, h2, fun y hy => ?_⟩
   rcases h3 y hy with h | h
   ·exact Or.inl h
   ·refine Or.inr fun z hz hlt => ?_
    rcases h z hz hlt with h | ⟨x', m', he, hyx, hm'⟩
    ·exact Or.inl h
    ·simp at he
     rw [← he.2] at hm'
     rcases List.mem_cons.1 hm' with h | h
     ·simp at h
      left
      have hx1 : e1 = x := by rw [← h.1, hyx, ← he.1]
      have h4 : ¬ out.getD e2 true = false := fun hh => hv ⟨hx1, hh⟩
      rw [h.2]
      rw [h.2] at hlt
      rw [List.getD_eq_getElem?_getD, List.getElem?_eq_getElem hlt] at h4 ⊢
      simpa using h4
     ·exact Or.inr ⟨x, m, rfl, by rw [he.1]; exact hyx, h⟩
theorem bfs_met (l : List (Nat × Nat)) (a : Nat) : ∀ (k : Nat) (q : List Nat) (out r : List Bool), Met l a none q out → bfs l k q out = some r → Met l a none [] r ∧ r.length = out.length := by
 intro k
 induction k with
 | zero => intro q out r _ h; cases h
 | succ k ih =>
  intro q out r hm h
  cases q with
  | nil => simp only [bfs, Option.some.injEq] at h; subst h; exact ⟨hm, rfl⟩
  | cons x q =>
   simp only [bfs] at h
   obtain ⟨h1, h2, h3⟩ := hm
   have hx : x = a ∨ Path (fun a b => (a, b) ∈ l) a x := by
    rcases h2 x (by simp) with h | h
    ·exact Or.inl h
    ·exact Or.inr (h1 x h)
   have := visits_met l a x hx l q out (fun _ h => h) ⟨h1, fun y hy => h2 y (by simp [hy]), fun y hy => by
    by_cases hyx : y = x
    ·exact Or.inr fun z hz _ => Or.inr ⟨x, l, rfl, hyx, hz⟩
    ·rcases h3 y hy with h | h
     ·rcases List.mem_cons.1 h with h | h
      ·exact absurd h hyx
      ·exact Or.inl h
     ·refine Or.inr fun z hz hlt => ?_
      rcases h z hz hlt with h | ⟨_, _, he, _⟩
      ·exact Or.inl h
      ·cases he⟩
   have h4 := ih _ _ _ this h
   have h5 := (visits_len x l (q, out)).2
   exact ⟨h4.1, by rw [h4.2]; exact h5⟩
theorem bfs_path (l : List (Nat × Nat)) (a n k : Nat) (r : List Bool) (hl : ∀ e ∈ l, e.2 < n) (h : bfs l k [a] (List.replicate n false) = some r) :
  r.length = n ∧ ∀ b, r.getD b false = true ↔ Path (fun a b => (a, b) ∈ l) a b := by
 have hf : ∀ b, (List.replicate n false).getD b false = false := by
  intro b
  rw [List.getD_eq_getElem?_getD, List.getElem?_replicate]
  split <;> rfl
 have hm : Met l a none [a] (List.replicate n false) := by
  refine ⟨fun b hb => ?_, fun y hy => ?_, fun y hy => ?_⟩
  ·rw [hf] at hb; cases hb
  ·simp at hy; exact Or.inl hy
  ·rcases hy with hy | hy
   ·exact Or.inl (by simp [hy])
   ·rw [hf] at hy; cases hy
 obtain ⟨⟨h1, h2, h3⟩, h4⟩ := bfs_met l a k _ _ r hm h
 rw [List.length_replicate] at h4
 refine ⟨h4, fun b => ⟨h1 b, fun hp => ?_⟩⟩
 have hstep : ∀ y z, (y = a ∨ r.getD y false = true) → (y, z) ∈ l → r.getD z false = true := by
  intro y z hy hz
  rcases h3 y hy with h | h
  ·cases h
  ·rcases h z hz (by rw [h4]; exact hl _ hz) with h | ⟨_, _, he, _⟩
   ·exact h
   ·cases he
 induction hp with
 | one e => exact hstep _ _ (Or.inl rfl) e
 | more _ e ih => exact hstep _ _ (Or.inr ih) e
end Go.Proofs.Ytfjfbapiheehaaa.DG
end
section
set_option linter.unusedVariables false
set_option linter.unusedSimpArgs false
namespace Go.Proofs.Ytfjfbapiheehaaa.V
open Go Go.RowKit Go.Proofs.Ytfjfbapiheehaaa.DG
def spotsF (g : Gr) (i : Nat) : Nat → List Int → List Spot
 | _, [] => []
 | j, s :: l => (if isT g s then [] else [((i : Int), (j : Int))]) ++ spotsF g i (j + 1) l
theorem spotsF_append (g : Gr) (i : Nat) (a b : List Int) : ∀ j, spotsF g i j (a ++ b) = spotsF g i j a ++ spotsF g i (j + a.length) b := by
 induction a with
 | nil => intro j; rfl
 | cons s a ih => intro j; simp only [List.cons_append, spotsF, ih, List.append_assoc, List.length_cons]; rw [show j + (a.length + 1) = j + 1 + a.length by omega]
theorem spotsF_succ (g : Gr) (i : Nat) {l : List Int} {j : Nat} {s : Int} (h : l[j]? = some s) : spotsF g i 0 (l.take (j + 1)) = spotsF g i 0 (l.take j) ++ if isT g s then [] else [((i : Int), (j : Int))] := by
 have hlt := (List.getElem?_eq_some_iff.1 h).1
 rw [List.take_add_one, h, spotsF_append]
 simp [spotsF, List.length_take, Nat.min_eq_left (Nat.le_of_lt hlt)]
theorem spotsF_len (g : Gr) (i : Nat) (l : List Int) : ∀ j, (spotsF g i j l).length ≤ l.length := by
 induction l with
 | nil => intro j; simp [spotsF]
 | cons s l ih =>
  intro j
  have := ih (j + 1)
  simp only [spotsF, List.length_append, List.length_cons]
  split <;> simp <;> omega
def spotsG (g : Gr) : Nat → List Ru → List Spot
 | _, [] => []
 | i, r :: l => spotsF g i 0 r.right ++ spotsG g (i + 1) l
theorem spotsG_append (g : Gr) (a b : List Ru) : ∀ i, spotsG g i (a ++ b) = spotsG g i a ++ spotsG g (i + a.length) b := by
 induction a with
 | nil => intro j; rfl
 | cons s a ih => intro j; simp only [List.cons_append, spotsG, ih, List.append_assoc, List.length_cons]; rw [show j + (a.length + 1) = j + 1 + a.length by omega]
theorem spotsG_succ (g : Gr) {l : List Ru} {i : Nat} {r : Ru} (h : l[i]? = some r) : spotsG g 0 (l.take (i + 1)) = spotsG g 0 (l.take i) ++ spotsF g i 0 r.right := by
 have hlt := (List.getElem?_eq_some_iff.1 h).1
 rw [List.take_add_one, h, spotsG_append]
 simp [spotsG, List.length_take, Nat.min_eq_left (Nat.le_of_lt hlt)]
theorem spotsG_len (g : Gr) {m : Nat} (l : List Ru) (hl : ∀ r ∈ l, r.right.length ≤ m) : ∀ i, (spotsG g i l).length ≤ m * l.length := by
 induction l with
 | nil => intro i; simp [spotsG]
 | cons r l ih =>
  intro i
  have h1 := ih (fun q hq => hl q (by simp [hq])) (i + 1)
  have h2 := spotsF_len g i r.right 0
  have h3 := hl r (by simp)
  simp only [spotsG, List.length_append, List.length_cons, Nat.mul_add, Nat.mul_one]
  omega
theorem mem_spotsF {g : Gr} {i : Nat} {x : Spot} (l : List Int) : ∀ j0, x ∈ spotsF g i j0 l ↔ ∃ (j : Nat) (s : Int), l[j]? = some s ∧ isT g s = false ∧ x = ((i : Int), ((j0 + j : Nat) : Int)) := by
 induction l with
 | nil => intro j0; simp [spotsF]
 | cons s l ih =>
  intro j0
  simp only [spotsF, List.mem_append, ih]
  constructor
  ·rintro (h | ⟨j, s', h1, h2, h3⟩)
   ·cases hs : isT g s with
    | true => rw [hs] at h; simp at h
    | false => rw [hs] at h; simp at h; exact ⟨0, s, rfl, hs, by rw [h]; rfl⟩
   ·exact ⟨j + 1, s', h1, h2, by rw [h3]; congr 2; omega⟩
  ·rintro ⟨j, s', h1, h2, h3⟩
   cases j with
   | zero =>
    simp at h1; subst h1
    left; rw [h2, h3]; simp
   | succ j => exact .inr ⟨j, s', h1, h2, by rw [h3]; congr 2; omega⟩
theorem mem_spotsG {g : Gr} {x : Spot} (l : List Ru) : ∀ i0, x ∈ spotsG g i0 l ↔ ∃ (i j : Nat) (r : Ru) (s : Int), l[i]? = some r ∧ r.right[j]? = some s ∧ isT g s = false ∧ x = (((i0 + i : Nat) : Int), (j : Int)) := by
 induction l with
 | nil => intro i0; simp [spotsG]
 | cons r l ih =>
  intro i0
  simp only [spotsG, List.mem_append, ih, mem_spotsF]
  constructor
  ·rintro (⟨j, s, h1, h2, h3⟩ | ⟨i, j, r', s, h0, h1, h2, h3⟩)
   ·exact ⟨0, j, r, s, rfl, h1, h2, by rw [h3]; simp⟩
   ·exact ⟨i + 1, j, r', s, h0, h1, h2, by rw [h3]; congr 2; omega⟩
  ·rintro ⟨i, j, r', s, h0, h1, h2, h3⟩
   cases i with
   | zero =>
    simp at h0; subst h0
    exact .inl ⟨j, s, h1, h2, by rw [h3]; simp⟩
   | succ i => exact .inr ⟨i, j, r', s, h0, h1, h2, by rw [h3]; congr 2; omega⟩
noncomputable def spots (g : Gr) : List Spot := if GoodG g then spotsG g 0 g.rules else []
theorem spots_len (g : Gr) : (spots g).length ≤ 480 := by
 unfold spots
 split
 ·rename_i h
  have := spotsG_len g (m := 8) g.rules (fun r hr => by
   obtain ⟨i, hi⟩ := List.getElem?_of_mem hr
   exact (h.rules.2.2 i r hi).2.2.1) 0
  have := h.rules.2.1
  omega
 ·simp
def edge (g : Gr) (x : Spot) : Nat × Nat := match g.rules[x.1.toNat]? with
 | some r => ((r.left - g.terms.length).toNat, (r.right.getD x.2.toNat 0 - g.terms.length).toNat)
 | none => (0, 0)
structure SpotAt (g : Gr) (x : Spot) (i j : Nat) (r : Ru) (s : Int) (a b : Nat) : Prop where
 hx : x = ((i : Int), (j : Int))
 hr : g.rules[i]? = some r
 hs : r.right[j]? = some s
 hl : r.left = (g.terms.length : Int) + (a : Int)
 hy : s = (g.terms.length : Int) + (b : Int)
 ha : a < g.names.length
 hb : b < g.names.length
 he : edge g x = (a, b)
theorem spot_of {g : Gr} (h : GoodG g) {i j : Nat} {r : Ru} {s : Int} (h1 : g.rules[i]? = some r) (h2 : r.right[j]? = some s) (h3 : isT g s = false) : ∃ a b, SpotAt g ((i : Int), (j : Int)) i j r s a b := by
 have hr := h.rules.2.2 i r h1
 have hs := hr.2.2.2.2 s (List.mem_of_getElem? h2)
 have hl := hr.1
 have hl2 := hr.2.1
 unfold symZ at hs hl2
 have ht : (g.terms.length : Int) ≤ s := by
  unfold isT at h3
  rw [decide_eq_true hs.1] at h3
  simpa using h3
 refine ⟨(r.left - g.terms.length).toNat, (s - g.terms.length).toNat, rfl, h1, h2, by omega, by omega, by omega, by omega, ?_⟩
 unfold edge
 simp only [Int.toNat_natCast, h1]
 rw [List.getD_eq_getElem?_getD, h2]; rfl
theorem mem_spots {g : Gr} {x : Spot} : x ∈ spots g ↔ GoodG g ∧ ∃ (i j : Nat) (r : Ru) (s : Int), g.rules[i]? = some r ∧ r.right[j]? = some s ∧ isT g s = false ∧ x = ((i : Int), (j : Int)) := by
 unfold spots
 split
 ·rename_i h
  rw [mem_spotsG]
  simp only [Nat.zero_add]
  exact ⟨fun k => ⟨h, k⟩, fun k => k.2⟩
 ·rename_i h
  exact ⟨fun k => by simp at k, fun k => absurd k.1 h⟩
theorem spot_at {g : Gr} {x : Spot} (hx : x ∈ spots g) : GoodG g ∧ ∃ i j r s a b, SpotAt g x i j r s a b := by
 obtain ⟨hG, i, j, r, s, h1, h2, h3, rfl⟩ := mem_spots.1 hx
 obtain ⟨a, b, h⟩ := spot_of hG h1 h2 h3
 exact ⟨hG, i, j, r, s, a, b, h⟩
noncomputable def restS (g : Gr) (w : List Spot) : List Spot := (spots g).filter fun x => !isIn w x
noncomputable def edges (g : Gr) (w : List Spot) : List (Nat × Nat) := (restS g w).map (edge g)
theorem mem_restS {g : Gr} {w : List Spot} {x : Spot} : x ∈ restS g w ↔ x ∈ spots g ∧ x ∉ w := by
 unfold restS
 rw [List.mem_filter]
 have := isIn_iff w x
 constructor
 ·rintro ⟨h1, h2⟩
  exact ⟨h1, fun h => by rw [this.2 h] at h2; cases h2⟩
 ·rintro ⟨h1, h2⟩
  refine ⟨h1, ?_⟩
  cases hb : isIn w x with
  | true => exact absurd (this.1 hb) h2
  | false => rfl
theorem restS_len (g : Gr) (w : List Spot) : (restS g w).length ≤ 480 := Nat.le_trans (List.length_filter_le _ _) (spots_len g)
theorem edges_lt {g : Gr} {w : List Spot} {e : Nat × Nat} (h : e ∈ edges g w) : e.1 < g.names.length ∧ e.2 < g.names.length := by
 obtain ⟨x, hx, rfl⟩ := List.mem_map.1 h
 obtain ⟨_, i, j, r, s, a, b, k⟩ := spot_at (mem_restS.1 hx).1
 rw [k.he]; exact ⟨k.ha, k.hb⟩
def Step (g : Gr) (w : List Spot) (a b : Nat) : Prop := (a, b) ∈ edges g w
abbrev Hang (g : Gr) (w : List Spot) : Nat → Nat → Prop := Path (Step g w)
noncomputable def rowOf (g : Gr) (w : List Spot) (a : Nat) : List Bool := (bfs (edges g w) (g.names.length + 2) [a] (List.replicate g.names.length false)).getD []
theorem falses_rep (n : Nat) : falses (List.replicate n false) = n := by
 unfold falses
 rw [List.countP_replicate]; simp
theorem row_bfs (g : Gr) (w : List Spot) (a : Nat) : bfs (edges g w) (g.names.length + 2) [a] (List.replicate g.names.length false) = some (rowOf g w a) := by
 obtain ⟨r, hr, _⟩ := bfs_some (edges g w) (g.names.length + 2) [a] (List.replicate g.names.length false) (by rw [falses_rep]; simp; omega)
 unfold rowOf
 rw [hr]; rfl
theorem rowOf_is (g : Gr) (w : List Spot) (a : Nat) : (rowOf g w a).length = g.names.length ∧ ∀ b, (rowOf g w a).getD b false = true ↔ Hang g w a b :=
 bfs_path (edges g w) a g.names.length _ _ (fun e he => (edges_lt he).2) (row_bfs g w a)
noncomputable def onOf (g : Gr) (w : List Spot) : List (List Bool) := if GoodG g then (List.range g.names.length).map (rowOf g w) else []
def cellB (m : List (List Bool)) (a b : Nat) : Bool := (m.getD a []).getD b false
theorem onOf_good {g : Gr} (h : GoodG g) (w : List Spot) : onOf g w = (List.range g.names.length).map (rowOf g w) := by unfold onOf; rw [if_pos h]
theorem onOf_len {g : Gr} (h : GoodG g) (w : List Spot) : (onOf g w).length = g.names.length := by rw [onOf_good h]; simp
theorem onOf_get {g : Gr} (h : GoodG g) (w : List Spot) {a : Nat} (ha : a < g.names.length) : (onOf g w)[a]? = some (rowOf g w a) := by
 rw [onOf_good h, List.getElem?_map, List.getElem?_range ha]; rfl
theorem cell_on {g : Gr} (h : GoodG g) (w : List Spot) {a : Nat} (ha : a < g.names.length) (b : Nat) : cellB (onOf g w) a b = true ↔ Hang g w a b := by
 have : (onOf g w).getD a [] = rowOf g w a := by rw [List.getD_eq_getElem?_getD, onOf_get h w ha]; rfl
 unfold cellB
 rw [this]
 exact (rowOf_is g w a).2 b
structure IsFirst (p : Nat → Bool) (a f : Nat) : Prop where
 le : f ≤ a
 is : f < a → p f = true
 no : ∀ b, b < f → p b = false
theorem IsFirst.unique {p : Nat → Bool} {a f f' : Nat} (h : IsFirst p a f) (h' : IsFirst p a f') : f = f' := by
 rcases Nat.lt_trichotomy f f' with hlt | he | hlt
 ·have h1 := h.is (Nat.lt_of_lt_of_le hlt h'.le)
  rw [h'.no f hlt] at h1; cases h1
 ·exact he
 ·have h1 := h'.is (Nat.lt_of_lt_of_le hlt h.le)
  rw [h.no f' hlt] at h1; cases h1
def firstOf (p : Nat → Bool) (a : Nat) : Nat := ((List.range a).find? p).getD a
theorem firstOf_is (p : Nat → Bool) (a : Nat) : IsFirst p a (firstOf p a) := by
 unfold firstOf
 cases h : (List.range a).find? p with
 | none =>
  rw [List.find?_eq_none] at h
  exact ⟨Nat.le_refl _, fun k => absurd k (by simp), fun b hb => by have := h b (List.mem_range.2 hb); simpa using this⟩
 | some f =>
  rw [List.find?_range_eq_some] at h
  obtain ⟨h1, h2, h3⟩ := h
  exact ⟨by simp at h2; simp; omega, fun _ => h1, fun b hb => by have := h3 b hb; simpa using this⟩
def bothB (m : List (List Bool)) (a b : Nat) : Bool := cellB m a b && cellB m b a
noncomputable def compOf (g : Gr) (w : List Spot) (a : Nat) : Nat := firstOf (bothB (onOf g w) a) a
noncomputable def comps (g : Gr) (w : List Spot) : List Nat := (List.range (onOf g w).length).map (compOf g w)
theorem comps_get {g : Gr} (h : GoodG g) (w : List Spot) {a : Nat} (ha : a < g.names.length) : (comps g w)[a]? = some (compOf g w a) := by
 unfold comps
 rw [onOf_len h, List.getElem?_map, List.getElem?_range ha]; rfl
theorem comps_len {g : Gr} (h : GoodG g) (w : List Spot) : (comps g w).length = g.names.length := by unfold comps; rw [onOf_len h]; simp
noncomputable def inS (g : Gr) (w : List Spot) (x : Spot) : Bool := decide (compOf g w (edge g x).1 = compOf g w (edge g x).2)
noncomputable def innerS (g : Gr) (w : List Spot) : List Spot := (restS g w).filter (inS g w)
end Go.Proofs.Ytfjfbapiheehaaa.V
end
section
set_option linter.unusedVariables false
set_option linter.unusedSimpArgs false
namespace Go.Proofs.Ytfjfbapiheehaaa.V
open Go Go.RowKit Go.Proofs.Ytfjfbapiheehaaa.P Go.Proofs.Ytfjfbapiheehaaa.DG
theorem ofRules_len (ts ns : List ByteArray) (l : List Alt) : ∀ rs, (l.foldl (ofRule ts ns) rs).length ≤ rs.length + l.length := by
 induction l with
 | nil => intro rs; exact Nat.le_refl _
 | cons a l ih =>
  intro rs
  have h := ih (ofRule ts ns rs a)
  have h2 : (ofRule ts ns rs a).length ≤ rs.length + 1 := by unfold ofRule; split <;> simp
  rw [List.foldl_cons, List.length_cons]; omega
theorem ofRules_right (ts ns : List ByteArray) (l : List Alt) (hl : ∀ a ∈ l, a.f1.length ≤ 100) : ∀ rs : List Ru, (∀ r ∈ rs, r.right.length ≤ 100) → ∀ r ∈ l.foldl (ofRule ts ns) rs, r.right.length ≤ 100 := by
 induction l with
 | nil => intro rs h; exact h
 | cons a l ih =>
  intro rs h
  rw [List.foldl_cons]
  refine ih (fun b hb => hl b (by simp [hb])) _ (fun r hr => ?_)
  unfold ofRule at hr
  split at hr
  ·exact h r hr
  ·rcases List.mem_append.1 hr with hr | hr
   ·exact h r hr
   ·obtain rfl := List.mem_singleton.1 hr
    unfold numOf; simp only [List.length_map]; exact hl a (by simp)
theorem ofSteps_len (l : List Alt) (hl : ∀ a ∈ l, a.f1.length ≤ 100) : ∀ p : List ByteArray × List ByteArray, (l.foldl ofStep p).1.length ≤ p.1.length + 100 * l.length ∧ (l.foldl ofStep p).2.length ≤ p.2.length + l.length := by
 induction l with
 | nil => intro p; simp
 | cons a l ih =>
  intro p
  have h := ih (fun b hb => hl b (by simp [hb])) (ofStep p a)
  have h1 := ofTerms_len a.f1 p.1
  have h2 := addS_len p.2 a.f0.f1
  have h3 := hl a (by simp)
  rw [List.foldl_cons, List.length_cons]
  unfold ofStep at h ⊢
  simp only at h ⊢
  omega
theorem of_at {s : ByteArray} {l : List Tok} {A : List Alt} {g : Gr} (hs : s.size ≤ 1000000) (hf : lex_Tokens.f s = some (l, 0, 0)) (hl : l.length ≤ 1000000) (ha : read_Alts.f l (s.size : Int) = some (A, 0, 0)) (hA : A.length ≤ 100) (hA2 : (A.all fun a => decide (a.f1.length ≤ 100)) = true) (hT : (ofSyms A).1.length ≤ 40) (hN : (ofSyms A).2.length ≤ 40)
  (hin : (A.all fun a => a.f1.all fun t => decide (t.f0 = 2) || decide (0 ≤ firstAt (fun y => decide (t.f1 = y)) (ofSyms A).2)) = true) (hg : ofG A = g) : VCalls Try.prog 34 [.val (.string s)] [] 0 (Gives (.tup [gV g, fV 0 0])) := by
 subst hg
 have hA2 : ∀ a ∈ A, a.f1.length ≤ 100 := fun a h => of_decide_eq_true (List.all_eq_true.1 hA2 a h)
 refine of_v hs hf hl ha hA hA2 hT hN (fun a h t ht hne => ?_) (fun k => ?_) (fun k => ?_) (fun k => ?_)
 ·have := List.all_eq_true.1 (List.all_eq_true.1 hin a h) t ht
  rw [decide_eq_false hne, Bool.false_or] at this
  exact of_decide_eq_true this
 ·have := ofRules_len (ofSyms A).1 (ofSyms A).2 (A.take k) []
  rw [List.length_take] at this
  simp only [List.length_nil] at this; omega
 ·exact ofRules_right _ _ _ (fun a h => hA2 a (List.mem_of_mem_take h)) _ (fun r h => by cases h)
 ·have := ofSteps_len (A.take k) (fun a h => hA2 a (List.mem_of_mem_take h)) ([], [])
  rw [List.length_take] at this
  simp only [List.length_nil] at this
  omega
def okTextsB (may : ByteArray → Bool) (l : List ByteArray) : Bool := l.zipIdx.all fun p => may p.1 && !((l.take p.2).any fun y => decide (p.1 = y))
theorem okTexts_of {may : ByteArray → Bool} {l : List ByteArray} (h : okTextsB may l = true) : okTexts may l := fun i s hi => by
 have hm : (s, i) ∈ l.zipIdx := List.mem_zipIdx_iff_getElem?.2 hi
 have := List.all_eq_true.1 h _ hm
 simp only [Bool.and_eq_true, Bool.not_eq_true'] at this
 refine ⟨this.1, fun hs => ?_⟩
 rw [(any_mem _ _).2 hs] at this
 cases this.2
def okRulesB (g : Gr) : Bool := g.rules.zipIdx.all fun p => decide ((g.terms.length : Int) ≤ p.1.left) && decide (p.1.left < symZ g) && decide (p.1.right.length ≤ 8) && !(inR (g.rules.take p.2) p.1) && p.1.right.all fun s => decide (0 ≤ s) && decide (s < symZ g)
theorem okRules_of {g : Gr} (h : okRulesB g = true) : okRules g := fun i r hi => by
 have hm : (r, i) ∈ g.rules.zipIdx := List.mem_zipIdx_iff_getElem?.2 hi
 have := List.all_eq_true.1 h _ hm
 simp only [Bool.and_eq_true, Bool.not_eq_true', decide_eq_true_eq, List.all_eq_true] at this
 obtain ⟨⟨⟨⟨h1, h2⟩, h3⟩, h4⟩, h5⟩ := this
 exact ⟨h1, h2, h3, (fun hr => by rw [(inR_iff _ _).2 hr] at h4; cases h4), h5⟩
def goodB (g : Gr) : Bool := okTextsB isName g.names && decide (1 ≤ g.names.length) && decide (g.names.length ≤ 40) && okTextsB isTerm g.terms && decide (g.terms.length ≤ 40) && decide (1 ≤ g.rules.length) && decide (g.rules.length ≤ 60) && okRulesB g && decide (rise (g.terms.length : Int) (g.rules.map Ru.left) = some (symZ g)) && decide (rise 0 (tsyms g g.rules) = some (g.terms.length : Int))
theorem good_of {g : Gr} (h : goodB g = true) : GoodG g := by
 unfold goodB at h
 simp only [Bool.and_eq_true, decide_eq_true_eq] at h
 obtain ⟨⟨⟨⟨⟨⟨⟨⟨⟨h1, h2⟩, h3⟩, h4⟩, h5⟩, h6⟩, h7⟩, h8⟩, h9⟩, h10⟩ := h
 exact ⟨⟨okTexts_of h1, h2, h3⟩, ⟨okTexts_of h4, Nat.zero_le _, h5⟩, ⟨h6, h7, okRules_of h8⟩, h9, h10⟩
def restC (g : Gr) (w : List Spot) : List Spot := (spotsG g 0 g.rules).filter fun x => !isIn w x
def onC (g : Gr) (w : List Spot) : List (List Bool) := (List.range g.names.length).map fun a => (bfs ((restC g w).map (edge g)) (g.names.length + 2) [a] (List.replicate g.names.length false)).getD []
def compC (m : List (List Bool)) (a : Nat) : Nat := firstOf (bothB m a) a
def compsC (g : Gr) (w : List Spot) : List Nat := (List.range (onC g w).length).map (compC (onC g w))
def innerC (g : Gr) (w : List Spot) : List Spot := (restC g w).filter fun x => decide (compC (onC g w) (edge g x).1 = compC (onC g w) (edge g x).2)
theorem spots_C {g : Gr} (h : GoodG g) : spots g = spotsG g 0 g.rules := by unfold spots; rw [if_pos h]
theorem rest_C {g : Gr} (h : GoodG g) (w : List Spot) : restS g w = restC g w := by unfold restS; rw [spots_C h]; rfl
theorem on_C {g : Gr} (h : GoodG g) (w : List Spot) : onOf g w = onC g w := by
 unfold onOf
 rw [if_pos h]
 unfold onC rowOf edges
 rw [rest_C h]
theorem comps_C {g : Gr} (h : GoodG g) (w : List Spot) : comps g w = compsC g w := by
 unfold comps compOf compsC compC
 rw [on_C h]
theorem inner_C {g : Gr} (h : GoodG g) (w : List Spot) : innerS g w = innerC g w := by
 unfold innerS innerC inS compOf compC
 rw [on_C h, rest_C h]
theorem nil2 {P : Program} {f : FuncId} {a : V} {sz : Nat} {h : Heap} {x : Nat} {Q : VOut → Heap → Nat → Prop} (hc : VCalls P f [a, .sl sz []] h x Q) : VCalls P f [a, .val (.slice none 0 0)] h x Q := fun z g w ms h1 h2 h3 =>
 hc z g w ms h1 h2 (fun i v m hv hm => by
  match i, hv with
  | 0, hv => exact h3 0 v m hv hm
  | 1, hv =>
   obtain rfl := Option.some.inj hv
   exact nil_sl sz (h3 1 _ m rfl hm)
  | i + 2, hv => cases hv)
end Go.Proofs.Ytfjfbapiheehaaa.V
end
section
set_option linter.unusedVariables false
set_option linter.unusedSimpArgs false
namespace Go.Proofs.Ytfjfbapiheehaaa.V
open Go Go.RowKit
theorem at_first {l : List ByteArray} {k : Nat} {y : ByteArray} (h : l[k]? = some y) : firstAt (fun x => decide (x = y)) l = (k : Int) ↔ y ∉ l.take k := by
 constructor
 ·intro e hm
  unfold firstAt at e
  cases hf : l.findIdx? (fun x => decide (x = y)) with
  | none => rw [hf] at e; simp only at e; omega
  | some i =>
   rw [hf] at e
   simp only at e
   obtain rfl : i = k := by omega
   rw [List.findIdx?_eq_some_iff_getElem] at hf
   obtain ⟨hlt, _, hno⟩ := hf
   obtain ⟨j, hj, he⟩ := List.mem_take_iff_getElem.1 hm
   exact hno j (by omega) (by simpa using he)
 ·intro hn
  refine firstAt_some (p := fun x => decide (x = y)) h (by simp) (fun z hz => ?_)
  simp only [decide_eq_false_iff_not]
  rintro rfl
  exact hn hz
set_option maxHeartbeats 2000000 in
theorem rhas_v (l : List Ru) (r : Ru) (hl : l.length ≤ 1000000) (hr0 : ∀ x ∈ l, x.right.length ≤ 1000000) (hr : r.right.length ≤ 1000000) : VCalls Try.prog 46 [.sl 2 (l.map encR), rV r] [] 0 (Gives (.val (.bool (inR l r)))) := by
 refine VCalls.enterD (n := 59) Try.func46 rfl rfl (by simp) rfl (fun cx hcx => ?_)
 (repeat (first | ((with_reducible refine VOps.same ?_); (first | (refine VOps.nil ?_; try dsimp only [VThen, VBlock]) | refine VOps.vP (VPure.assign rfl rfl) ?_ | refine VOps.box rfl rfl (by kernel_rfl) rfl rfl rfl rfl ?_)) | refine VCode.seq ?_ | refine VCode.region rfl ?_ | refine VCode.block ?_))
 refine VCode.loop (fun m st => ∃ k : Nat, k ≤ l.length ∧ m = l.length - k ∧ (∀ y ∈ l.take k, ruEq y r = false) ∧ st = ⟨[(5, .val (.int .i64 (k : Int))), (0, .sl 2 (l.map encR)), (3, .ptr 0 0)], [(0, rO r)], 1⟩) l.length ?_ ?_
 ·(refine Less.mk (l := [0]) hcx ?ss ?hh rfl (by decide) rfl ⟨0, by omega, by omega, by simp, rfl⟩; (case ss => repeat (first | exact SubS.nil | refine SubS.cons rfl rfl ?_ | refine SubS.cons (ciI (by omega)) rfl ?_ | refine SubS.cons (ciB (by assumption)) rfl ?_)); (case hh => repeat (first | exact SubH.nil | refine SubH.cons rfl rfl rfl ?_)))
 rintro m st ⟨k, hk, rfl, hb, rfl⟩
 cases hq : l[k]? with
 | some x =>
  have hlt : k < l.length := (List.getElem?_eq_some_iff.1 hq).1
  have hx := hr0 x (List.mem_of_getElem? hq)
  (repeat (first | ((with_reducible refine VOps.same ?_); (first | (refine VOps.nil ?_; try dsimp only [VThen, VBlock]) | refine VOps.vP (VPure.move rfl rfl) ?_ | refine VOps.vP (VPure.len_map TI.und' rfl rfl) ?_ | refine VOps.vP (VPure.lss rfl rfl rfl) ?_)) | refine VCode.seq ?_ | refine VCode.region rfl ?_))
  refine VCode.cond_t rfl (decide_eq_true (by omega)) ?_
  (repeat (first | ((with_reducible refine VOps.same ?_); (first | refine VOps.vP (VPure.move rfl rfl) ?_ | refine VOps.vP (VPure.idx_map rfl rfl rfl (by assumption)) ?_ | refine VOps.vP (VPure.field_el rfl rfl) ?_ | refine VOps.vP (VPure.field_ptr rfl rfl rfl) ?_ | refine VOps.vV (VLoad.el1 rfl rfl rfl (by rfl)) ?_ | refine VOps.vV (VLoad.box1 rfl rfl rfl rfl (by rfl) (by decide)) ?_ | refine VOps.vP (VPure.eqi rfl rfl rfl) ?_)) | refine VCode.seq ?_ | refine VCode.draw [] rfl ?_ | refine VCode.block ?_ | refine VCode.skip ?_))
  refine VOps.bool (d := 22) rfl (fun b1 => ?_) (fun b1 => ?_)
  ·(repeat (first | ((with_reducible refine VOps.same ?_); (first | (refine VOps.nil ?_; try dsimp only [VThen, VBlock]) | refine VOps.vP (VPure.move rfl rfl) ?_ | refine VOps.vP (VPure.assign rfl rfl) ?_ | refine VOps.vP (VPure.len_map TI.und' rfl rfl) ?_ | refine VOps.vP (VPure.idx_map rfl rfl rfl (by assumption)) ?_ | refine VOps.vP (VPure.field_el rfl rfl) ?_ | refine VOps.vP (VPure.field_ptr rfl rfl rfl) ?_ | refine VOps.vV (VLoad.el1 rfl rfl rfl (by rfl)) ?_ | refine VOps.vV (VLoad.box1 rfl rfl rfl rfl (by rfl) (by decide)) ?_ | refine VOps.vP (VPure.eqi rfl rfl rfl) ?_ | refine VOps.vP (VPure.pick_t rfl rfl rfl) ?_)) | refine VCode.seq ?_ | refine VCode.region rfl ?_ | refine VCode.block ?_))
   refine VCode.loop (fun m st => ∃ (j : Nat) (b : Bool), j ≤ r.right.length ∧ m = r.right.length - j ∧ (b = true → x.left = r.left ∧ x.right.length = r.right.length ∧ x.right.take j = r.right.take j) ∧ (b = false → ruEq x r = false) ∧ st = ⟨[(7, .val (.int .i64 (j : Int))), (6, .val (.bool b)), (5, .val (.int .i64 (k : Int))), (0, .sl 2 (l.map encR)), (3, .ptr 0 0)], [(0, rO r)], 1⟩) r.right.length ?_ ?_
   ·(refine Less.mk (l := [0]) hcx ?ss ?hh rfl (by decide) rfl ⟨0, decide ((x.right.length : Int) = (r.right.length : Int)), by omega, by omega, (fun h => ⟨of_decide_eq_true b1, by have := of_decide_eq_true h; omega, rfl⟩), (fun h => by
     have := of_decide_eq_false h
     unfold ruEq; rw [decide_eq_false (p := x.right = r.right) (fun e => this (by rw [e]))]; simp), rfl⟩; (case ss => repeat (first | exact SubS.nil | refine SubS.cons rfl rfl ?_ | refine SubS.cons (ciI (by omega)) rfl ?_ | refine SubS.cons (ciB (by assumption)) rfl ?_)); (case hh => repeat (first | exact SubH.nil | refine SubH.cons rfl rfl rfl ?_)))
   rintro m st ⟨j, b, hj, rfl, ht, hf, rfl⟩
   (repeat (first | ((with_reducible refine VOps.same ?_); (first | refine VOps.vP (VPure.move rfl rfl) ?_ | refine VOps.vP (VPure.len_map TI.und' rfl rfl) ?_ | refine VOps.vP (VPure.field_ptr rfl rfl rfl) ?_ | refine VOps.vV (VLoad.box1 rfl rfl rfl rfl (by rfl) (by decide)) ?_ | refine VOps.vP (VPure.lss rfl rfl rfl) ?_)) | refine VCode.seq ?_ | refine VCode.region rfl ?_))
   refine VOps.bool (d := 39) rfl (fun b2 => ?_) (fun b2 => ?_)
   ·have hlt2 : j < r.right.length := by have := of_decide_eq_true b2; omega
    obtain ⟨u, hu⟩ : ∃ u, r.right[j]? = some u := ⟨_, List.getElem?_eq_getElem hlt2⟩
    (repeat (first | ((with_reducible refine VOps.same ?_); (first | (refine VOps.nil ?_; try dsimp only [VThen, VBlock]) | refine VOps.vP (VPure.move rfl rfl) ?_ | refine VOps.vP (VPure.pick_t rfl rfl rfl) ?_))))
    refine VCode.cond rfl (fun b3 => ?_) (fun b3 => ?_)
    ·subst b3
     obtain ⟨t1, t2, t3⟩ := ht rfl
     obtain ⟨w, hw⟩ : ∃ w, x.right[j]? = some w := ⟨_, List.getElem?_eq_getElem (by omega)⟩
     (repeat (first | ((with_reducible refine VOps.same ?_); (first | (refine VOps.nil ?_; try dsimp only [VThen, VBlock]) | refine VOps.vP (VPure.move rfl rfl) ?_ | refine VOps.vP (VPure.assign rfl rfl) ?_ | refine VOps.vP (VPure.idx_map rfl rfl rfl (by assumption)) ?_ | refine VOps.vP (VPure.field_el rfl rfl) ?_ | refine VOps.vP (VPure.field_ptr rfl rfl rfl) ?_ | refine VOps.vV (VLoad.el1 rfl rfl rfl (by rfl)) ?_ | refine VOps.vV (VLoad.box1 rfl rfl rfl rfl (by rfl) (by decide)) ?_ | refine VOps.vP (VPure.addK rfl rfl rfl (by omega)) ?_ | refine VOps.vP (VPure.eqi rfl rfl rfl) ?_)) | refine VCode.seq ?_ | refine VCode.region rfl ?_ | refine VCode.draw [] rfl ?_ | refine VCode.block ?_ | refine VCode.skip ?_))
     (refine Less.mk (l := [0]) hcx ?ss ?hh rfl (by decide) rfl ⟨_, ?_, j + 1, decide (w = u), by omega, rfl, (fun h => ⟨t1, t2, take_eq t3 hw hu (of_decide_eq_true h)⟩), (fun h => by
      have := of_decide_eq_false h
      unfold ruEq; rw [decide_eq_false (p := x.right = r.right) (fun e => this (by rw [e, hu] at hw; exact (Option.some.inj hw).symm))]; simp), rfl⟩; (case ss => repeat (first | exact SubS.nil | refine SubS.cons rfl rfl ?_ | refine SubS.cons (ciI (by omega)) rfl ?_ | refine SubS.cons (ciB (by assumption)) rfl ?_)); (case hh => repeat (first | exact SubH.nil | refine SubH.cons rfl rfl rfl ?_)))
     omega
    ·subst b3
     have hf := hf rfl
     (repeat (first | ((with_reducible refine VOps.same ?_); (first | (refine VOps.nil ?_; try dsimp only [VThen, VBlock]) | refine VOps.vP (VPure.move rfl rfl) ?_)) | refine VCode.seq ?_ | refine VCode.region rfl ?_ | refine VCode.exit ?_))
     refine VCode.cond_f rfl rfl ?_
     (repeat (first | ((with_reducible refine VOps.same ?_); (first | (refine VOps.nil ?_; try dsimp only [VThen, VBlock]) | refine VOps.vP (VPure.move rfl rfl) ?_ | refine VOps.vP (VPure.assign rfl rfl) ?_ | refine VOps.vP (VPure.addK rfl rfl rfl (by omega)) ?_)) | refine VCode.region rfl ?_ | refine VCode.skip ?_))
     (refine Less.mk (l := [0]) hcx ?ss ?hh rfl (by decide) rfl ⟨_, ?_, k + 1, by omega, rfl, take_no hq hb hf, rfl⟩; (case ss => repeat (first | exact SubS.nil | refine SubS.cons rfl rfl ?_ | refine SubS.cons (ciI (by omega)) rfl ?_ | refine SubS.cons (ciB (by assumption)) rfl ?_)); (case hh => repeat (first | exact SubH.nil | refine SubH.cons rfl rfl rfl ?_)))
     omega
   ·have hge : r.right.length ≤ j := by have := of_decide_eq_false b2; omega
    (repeat (first | ((with_reducible refine VOps.same ?_); (first | (refine VOps.nil ?_; try dsimp only [VThen, VBlock]) | refine VOps.vP (VPure.pick_f rfl rfl rfl) ?_ | refine VOps.passv rfl (by kernel_rfl) rfl ?_))))
    refine VCode.cond_f rfl rfl ?_
    (repeat (first | ((with_reducible refine VOps.same ?_); (first | (refine VOps.nil ?_; try dsimp only [VThen, VBlock]) | refine VOps.vP (VPure.move rfl rfl) ?_)) | refine VCode.seq ?_ | refine VCode.region rfl ?_ | refine VCode.exit ?_))
    refine VCode.cond rfl (fun b3 => ?_) (fun b3 => ?_)
    ·subst b3
     obtain ⟨t1, t2, t3⟩ := ht rfl
     rw [List.take_of_length_le (by omega), List.take_of_length_le hge] at t3
     (repeat (first | ((with_reducible refine VOps.same ?_); (first | (refine VOps.nil ?_; try dsimp only [VThen, VBlock]) | refine VOps.vP (VPure.assign rfl rfl) ?_)) | refine VCode.seq ?_ | refine VCode.region rfl ?_))
     refine VCode.retD rfl rfl (.tmp rfl .nil) ?_
     have : inR l r = true := List.any_eq_true.2 ⟨x, List.mem_of_getElem? hq, by unfold ruEq; rw [decide_eq_true t1, decide_eq_true t3]; rfl⟩
     rw [this]; rfl
    ·subst b3
     have hf := hf rfl
     (repeat (first | ((with_reducible refine VOps.same ?_); (first | (refine VOps.nil ?_; try dsimp only [VThen, VBlock]) | refine VOps.vP (VPure.move rfl rfl) ?_ | refine VOps.vP (VPure.assign rfl rfl) ?_ | refine VOps.vP (VPure.addK rfl rfl rfl (by omega)) ?_)) | refine VCode.region rfl ?_ | refine VCode.skip ?_))
     (refine Less.mk (l := [0]) hcx ?ss ?hh rfl (by decide) rfl ⟨_, ?_, k + 1, by omega, rfl, take_no hq hb hf, rfl⟩; (case ss => repeat (first | exact SubS.nil | refine SubS.cons rfl rfl ?_ | refine SubS.cons (ciI (by omega)) rfl ?_ | refine SubS.cons (ciB (by assumption)) rfl ?_)); (case hh => repeat (first | exact SubH.nil | refine SubH.cons rfl rfl rfl ?_)))
     omega
  ·(repeat (first | ((with_reducible refine VOps.same ?_); (first | (refine VOps.nil ?_; try dsimp only [VThen, VBlock]) | refine VOps.vP (VPure.assign rfl rfl) ?_ | refine VOps.vP (VPure.pick_f rfl rfl rfl) ?_ | refine VOps.passv rfl (by kernel_rfl) rfl ?_)) | refine VCode.seq ?_ | refine VCode.region rfl ?_ | refine VCode.block ?_))
   refine VCode.loop (fun m st => ∃ (j : Nat) (b : Bool), j ≤ r.right.length ∧ m = r.right.length - j ∧ (b = true → x.left = r.left ∧ x.right.length = r.right.length ∧ x.right.take j = r.right.take j) ∧ (b = false → ruEq x r = false) ∧ st = ⟨[(7, .val (.int .i64 (j : Int))), (6, .val (.bool b)), (5, .val (.int .i64 (k : Int))), (0, .sl 2 (l.map encR)), (3, .ptr 0 0)], [(0, rO r)], 1⟩) r.right.length ?_ ?_
   ·(refine Less.mk (l := [0]) hcx ?ss ?hh rfl (by decide) rfl ⟨0, false, by omega, by omega, (fun h => by cases h), (fun _ => by unfold ruEq; rw [b1]; rfl), rfl⟩; (case ss => repeat (first | exact SubS.nil | refine SubS.cons rfl rfl ?_ | refine SubS.cons (ciI (by omega)) rfl ?_ | refine SubS.cons (ciB (by assumption)) rfl ?_)); (case hh => repeat (first | exact SubH.nil | refine SubH.cons rfl rfl rfl ?_)))
   rintro m st ⟨j, b, hj, rfl, ht, hf, rfl⟩
   (repeat (first | ((with_reducible refine VOps.same ?_); (first | refine VOps.vP (VPure.move rfl rfl) ?_ | refine VOps.vP (VPure.len_map TI.und' rfl rfl) ?_ | refine VOps.vP (VPure.field_ptr rfl rfl rfl) ?_ | refine VOps.vV (VLoad.box1 rfl rfl rfl rfl (by rfl) (by decide)) ?_ | refine VOps.vP (VPure.lss rfl rfl rfl) ?_)) | refine VCode.seq ?_ | refine VCode.region rfl ?_))
   refine VOps.bool (d := 39) rfl (fun b2 => ?_) (fun b2 => ?_)
   ·have hlt2 : j < r.right.length := by have := of_decide_eq_true b2; omega
    obtain ⟨u, hu⟩ : ∃ u, r.right[j]? = some u := ⟨_, List.getElem?_eq_getElem hlt2⟩
    (repeat (first | ((with_reducible refine VOps.same ?_); (first | (refine VOps.nil ?_; try dsimp only [VThen, VBlock]) | refine VOps.vP (VPure.move rfl rfl) ?_ | refine VOps.vP (VPure.pick_t rfl rfl rfl) ?_))))
    refine VCode.cond rfl (fun b3 => ?_) (fun b3 => ?_)
    ·subst b3
     obtain ⟨t1, t2, t3⟩ := ht rfl
     obtain ⟨w, hw⟩ : ∃ w, x.right[j]? = some w := ⟨_, List.getElem?_eq_getElem (by omega)⟩
     (repeat (first | ((with_reducible refine VOps.same ?_); (first | (refine VOps.nil ?_; try dsimp only [VThen, VBlock]) | refine VOps.vP (VPure.move rfl rfl) ?_ | refine VOps.vP (VPure.assign rfl rfl) ?_ | refine VOps.vP (VPure.idx_map rfl rfl rfl (by assumption)) ?_ | refine VOps.vP (VPure.field_el rfl rfl) ?_ | refine VOps.vP (VPure.field_ptr rfl rfl rfl) ?_ | refine VOps.vV (VLoad.el1 rfl rfl rfl (by rfl)) ?_ | refine VOps.vV (VLoad.box1 rfl rfl rfl rfl (by rfl) (by decide)) ?_ | refine VOps.vP (VPure.addK rfl rfl rfl (by omega)) ?_ | refine VOps.vP (VPure.eqi rfl rfl rfl) ?_)) | refine VCode.seq ?_ | refine VCode.region rfl ?_ | refine VCode.draw [] rfl ?_ | refine VCode.block ?_ | refine VCode.skip ?_))
     (refine Less.mk (l := [0]) hcx ?ss ?hh rfl (by decide) rfl ⟨_, ?_, j + 1, decide (w = u), by omega, rfl, (fun h => ⟨t1, t2, take_eq t3 hw hu (of_decide_eq_true h)⟩), (fun h => by
      have := of_decide_eq_false h
      unfold ruEq; rw [decide_eq_false (p := x.right = r.right) (fun e => this (by rw [e, hu] at hw; exact (Option.some.inj hw).symm))]; simp), rfl⟩; (case ss => repeat (first | exact SubS.nil | refine SubS.cons rfl rfl ?_ | refine SubS.cons (ciI (by omega)) rfl ?_ | refine SubS.cons (ciB (by assumption)) rfl ?_)); (case hh => repeat (first | exact SubH.nil | refine SubH.cons rfl rfl rfl ?_)))
     omega
    ·subst b3
     have hf := hf rfl
     (repeat (first | ((with_reducible refine VOps.same ?_); (first | (refine VOps.nil ?_; try dsimp only [VThen, VBlock]) | refine VOps.vP (VPure.move rfl rfl) ?_)) | refine VCode.seq ?_ | refine VCode.region rfl ?_ | refine VCode.exit ?_))
     refine VCode.cond_f rfl rfl ?_
     (repeat (first | ((with_reducible refine VOps.same ?_); (first | (refine VOps.nil ?_; try dsimp only [VThen, VBlock]) | refine VOps.vP (VPure.move rfl rfl) ?_ | refine VOps.vP (VPure.assign rfl rfl) ?_ | refine VOps.vP (VPure.addK rfl rfl rfl (by omega)) ?_)) | refine VCode.region rfl ?_ | refine VCode.skip ?_))
     (refine Less.mk (l := [0]) hcx ?ss ?hh rfl (by decide) rfl ⟨_, ?_, k + 1, by omega, rfl, take_no hq hb hf, rfl⟩; (case ss => repeat (first | exact SubS.nil | refine SubS.cons rfl rfl ?_ | refine SubS.cons (ciI (by omega)) rfl ?_ | refine SubS.cons (ciB (by assumption)) rfl ?_)); (case hh => repeat (first | exact SubH.nil | refine SubH.cons rfl rfl rfl ?_)))
     omega
   ·have hge : r.right.length ≤ j := by have := of_decide_eq_false b2; omega
    (repeat (first | ((with_reducible refine VOps.same ?_); (first | (refine VOps.nil ?_; try dsimp only [VThen, VBlock]) | refine VOps.vP (VPure.pick_f rfl rfl rfl) ?_ | refine VOps.passv rfl (by kernel_rfl) rfl ?_))))
    refine VCode.cond_f rfl rfl ?_
    (repeat (first | ((with_reducible refine VOps.same ?_); (first | (refine VOps.nil ?_; try dsimp only [VThen, VBlock]) | refine VOps.vP (VPure.move rfl rfl) ?_)) | refine VCode.seq ?_ | refine VCode.region rfl ?_ | refine VCode.exit ?_))
    refine VCode.cond rfl (fun b3 => ?_) (fun b3 => ?_)
    ·subst b3
     obtain ⟨t1, t2, t3⟩ := ht rfl
     rw [List.take_of_length_le (by omega), List.take_of_length_le hge] at t3
     (repeat (first | ((with_reducible refine VOps.same ?_); (first | (refine VOps.nil ?_; try dsimp only [VThen, VBlock]) | refine VOps.vP (VPure.assign rfl rfl) ?_)) | refine VCode.seq ?_ | refine VCode.region rfl ?_))
     refine VCode.retD rfl rfl (.tmp rfl .nil) ?_
     have : inR l r = true := List.any_eq_true.2 ⟨x, List.mem_of_getElem? hq, by unfold ruEq; rw [decide_eq_true t1, decide_eq_true t3]; rfl⟩
     rw [this]; rfl
    ·subst b3
     have hf := hf rfl
     (repeat (first | ((with_reducible refine VOps.same ?_); (first | (refine VOps.nil ?_; try dsimp only [VThen, VBlock]) | refine VOps.vP (VPure.move rfl rfl) ?_ | refine VOps.vP (VPure.assign rfl rfl) ?_ | refine VOps.vP (VPure.addK rfl rfl rfl (by omega)) ?_)) | refine VCode.region rfl ?_ | refine VCode.skip ?_))
     (refine Less.mk (l := [0]) hcx ?ss ?hh rfl (by decide) rfl ⟨_, ?_, k + 1, by omega, rfl, take_no hq hb hf, rfl⟩; (case ss => repeat (first | exact SubS.nil | refine SubS.cons rfl rfl ?_ | refine SubS.cons (ciI (by omega)) rfl ?_ | refine SubS.cons (ciB (by assumption)) rfl ?_)); (case hh => repeat (first | exact SubH.nil | refine SubH.cons rfl rfl rfl ?_)))
     omega
 | none =>
  have hge : l.length ≤ k := List.getElem?_eq_none_iff.1 hq
  rw [List.take_of_length_le hge] at hb
  (repeat (first | ((with_reducible refine VOps.same ?_); (first | (refine VOps.nil ?_; try dsimp only [VThen, VBlock]) | refine VOps.vP (VPure.move rfl rfl) ?_ | refine VOps.vP (VPure.len_map TI.und' rfl rfl) ?_ | refine VOps.vP (VPure.lss rfl rfl rfl) ?_)) | refine VCode.seq ?_ | refine VCode.region rfl ?_))
  refine VCode.cond_f rfl (decide_eq_false (by omega)) ?_
  (repeat (first | ((with_reducible refine VOps.same ?_); (first | (refine VOps.nil ?_; try dsimp only [VThen, VBlock]) | refine VOps.vP (VPure.assign rfl rfl) ?_)) | refine VCode.seq ?_ | refine VCode.region rfl ?_ | refine VCode.exit ?_))
  refine VCode.retD rfl rfl (.tmp rfl .nil) ?_
  have : inR l r = false := List.any_eq_false.2 (fun y hy => by rw [hb y hy]; simp)
  rw [this]; rfl
end Go.Proofs.Ytfjfbapiheehaaa.V
end
