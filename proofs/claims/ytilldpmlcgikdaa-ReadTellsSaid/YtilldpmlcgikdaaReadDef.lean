/- The reader's method definition. -/
import Derived.Test.YtilldpmlcgikdaaReadAlt
set_option linter.unusedVariables false
set_option linter.unusedSimpArgs false
namespace Go.Proofs.Ytilldpmlcgikdaa.P
open Go.RowKit Go.Proofs.YtilldpmlcgikdaaW.PrintWords Go.Proofs.YtilldpmlcgikdaaW.PrintLast Go.Proofs.YtilldpmlcgikdaaW.PrintMore Go.Proofs.Ytilldpmlcgikdaa.Base
/-- The alternatives of one definition, behind its left side and its sign. -/
def barsGo (x : Tok) (e : Int) : Nat → List Tok → List S40 → Except (Int × Int) (List S40 × List Tok)
  | 0, _, _ => .error (0, 0)
  | k + 1, l, out => match altGo x e out.length l [] with
    | .error p => .error p
    | .ok (r, t, l') => if t.f0 = 4 then barsGo x e k l' (out ++ [⟨x, r⟩]) else .ok (out ++ [⟨x, r⟩], l')
def defGo (e : Int) : List Tok → List S40 → Except (Int × Int) (List S40 × List Tok)
  | [], _ => .error (12, e)
  | t :: l, out => if t.f0 = 1 then
      (match l with
      | [] => .error (12, e)
      | u :: l => if u.f0 = 3 then barsGo t e (l.length + 1) l out else .error (12, u.f2))
    else .error (12, t.f2)
theorem altGo_less (x : Tok) (e : Int) (n : Nat) (l : List Tok) : ∀ r q, altGo x e n l r = .ok q → q.2.2.length < l.length := by
  induction l with
  | nil => intro r q h; simp [altGo] at h
  | cons t l ih =>
    intro r q h
    simp only [altGo] at h
    split at h
    · have := ih _ _ h
      simp only [List.length_cons]
      omega
    · split at h
      · split at h
        · cases h
        · injection h with h
          subst h
          simp
      · cases h
theorem Reader.below {w0 W W2 : World} {g : Nat} {l : List Tok} {e : Int} {out : List S40} (h : Reader w0 W g l e out) (hb : Below W.heap.size W W2) : Reader w0 W2 g l e out := by
  obtain ⟨A, c, ov, b, hc, hC, hO, hB, hg⟩ := h
  exact ⟨A, c, ov, blk_below b hb, hc, hC, Kd.R_below hO hb, below_step hB hb, hg⟩
theorem Reader.alloc {w0 W : World} {g : Nat} {l : List Tok} {e : Int} {out : List S40} (h : Reader w0 W g l e out) (o : Obj) : Reader w0 (W.alloc o) g l e out := h.below (below_alloc (Below.refl _ _) o)
theorem Reader.lt {w0 W : World} {g : Nat} {l : List Tok} {e : Int} {out : List S40} (h : Reader w0 W g l e out) : g < W.heap.size := by
  obtain ⟨A, c, ov, b, _⟩ := h
  exact blk_lt b
theorem Reader.base {w0 W : World} {g : Nat} {l : List Tok} {e : Int} {out : List S40} (h : Reader w0 W g l e out) : w0.heap.size ≤ g := by
  obtain ⟨A, c, ov, b, hc, hC, hO, hB, hg⟩ := h
  exact hg
theorem Reader.old {w0 W : World} {g : Nat} {l : List Tok} {e : Int} {out : List S40} (h : Reader w0 W g l e out) : Below w0.heap.size w0 W := by
  obtain ⟨A, c, ov, b, hc, hC, hO, hB, hg⟩ := h
  exact hB
theorem Kept.refl (W : World) (g : Nat) : Kept W W g := ⟨Nat.le_refl _, fun _ _ _ _ _ _ => rfl⟩
theorem Kept.below {W W1 W2 : World} {g : Nat} (h : Kept W W1 g) (hb : Below W1.heap.size W1 W2) : Kept W W2 g := by
  refine ⟨Nat.le_trans h.1 hb.size, fun k cells t hk hne ht => ?_⟩
  have h1 := h.2 k cells t hk hne ht
  exact (hb.block k (Nat.lt_of_lt_of_le (blk_lt hk) h.1)).trans h1
theorem Kept.trans {W W1 W2 : World} {g : Nat} (h : Kept W W1 g) (h2 : Kept W1 W2 g) : Kept W W2 g := by
  refine ⟨Nat.le_trans h.1 h2.1, fun k cells t hk hne ht => ?_⟩
  have h1 := h.2 k cells t hk hne ht
  exact (h2.2 k cells t (h1.trans hk) hne ht).trans h1
theorem Kept.at {W W1 : World} {g k : Nat} {cells : Array Value} {t : TypeId} (h : Kept W W1 g) (hk : W.heap[k]? = some (.cells cells t (0, 0))) (hne : k ≠ g) (ht : t ≠ 40) : W1.heap[k]? = some (.cells cells t (0, 0)) := (h.2 k cells t hk hne ht).trans hk
theorem Reader.next {w0 W w2 : World} {g : Nat} {t : Tok} {l : List Tok} {e : Int} {out : List S40} {A : Option Addr} {c : Nat} {ov : Value}
    (BK : W.heap[g]? = some (.cells #[.slice A (t :: l).length c, .int .i64 e, ov] 51 (0, 0))) (hlc : (t :: l).length ≤ c) (hC : Kd.C k38 w0 A (t :: l).length (t :: l)) (hO : Kd.R k40 40 W w0.heap.size (fun _ => True) ov out) (hB : Below w0.heap.size w0 W) (hg : w0.heap.size ≤ g)
    (hb : Below W.heap.size (W.setCell ⟨g, 0, none⟩ (.slice (if c = 1 then A else A.map (·.add 3)) l.length (c - 1))) w2) : Reader w0 w2 g l e out ∧ Kept W w2 g := by
  have hsz : (W.setCell ⟨g, 0, none⟩ (.slice (if c = 1 then A else A.map (·.add 3)) l.length (c - 1))).heap.size = W.heap.size := by simp [World.setCell]
  have h1 : Reader w0 (W.setCell ⟨g, 0, none⟩ (.slice (if c = 1 then A else A.map (·.add 3)) l.length (c - 1))) g l e out := by
    refine ⟨_, _, ov, blk_put (cs := #[.slice A (t :: l).length c, .int .i64 e, ov]) BK 0 _ rfl, ?_, Kd.C_drop (m := 1) hC (by simp) hlc, Kd.R_set hO BK (by decide) 0 _, below_set hB hg, hg⟩
    simp only [List.length_cons] at hlc
    omega
  refine ⟨h1.below (by rw [hsz]; exact hb), Kept.below (W1 := W.setCell ⟨g, 0, none⟩ (.slice (if c = 1 then A else A.map (·.add 3)) l.length (c - 1))) ⟨by rw [hsz]; exact Nat.le_refl _, fun k cells t hk hne _ => Below.heap_setCell _ _ _ _ hne⟩ (by rw [hsz]; exact hb)⟩
/-- The next token is one of these. -/
theorem next_in (w0 W : World) (g : Nat) (e : Int) (out : List S40) (t : Tok) (l : List Tok) (ks : List Int) (kt : TypeId) (hR : Reader w0 W g (t :: l) e out) (hk : ks.length ≤ 1000) (hyes : t.f0 ∈ ks) :
    Calls Try.prog 22 #[.pointer (some ⟨g, 0, none⟩), .slice (some ⟨W.heap.size, 0, none⟩) ks.length ks.length] (W.alloc (.cells (ks.map (Value.int .i64)).toArray kt (0, 0))) fun e' w' => e' = .returned (.agg #[.int .i64 t.f0, .string t.f1, .int .i64 t.f2]) ∧ Reader w0 w' g l e out ∧ Kept W w' g := by
  obtain ⟨A, c, ov, b, hc, hC, hO, hB, hg⟩ := hR.alloc (.cells (ks.map (Value.int .i64)).toArray kt (0, 0))
  refine (next_ok _ g A c e ov t l (some ⟨W.heap.size, 0, none⟩) ks.length ks b (Kd.C_below hC hB) hc (C_lit W kt ks hk) (Nat.le_refl _) hk hyes).mono ?_
  rintro e' w3 ⟨rfl, hb3⟩
  have := Reader.next b hc hC hO hB hg hb3
  exact ⟨rfl, this.1, Kept.trans (Kept.below (Kept.refl _ _) (below_alloc (Below.refl _ _) _)) this.2⟩
theorem next_not (w0 W : World) (g : Nat) (e : Int) (out : List S40) (l : List Tok) (ks : List Int) (kt : TypeId) (hR : Reader w0 W g l e out) (hk : ks.length ≤ 1000) (p : Int) (hno : (l = [] ∧ p = e) ∨ ∃ t l', l = t :: l' ∧ t.f0 ∉ ks ∧ p = t.f2) :
    Calls Try.prog 22 #[.pointer (some ⟨g, 0, none⟩), .slice (some ⟨W.heap.size, 0, none⟩) ks.length ks.length] (W.alloc (.cells (ks.map (Value.int .i64)).toArray kt (0, 0))) fun e' w' => e' = .panicked (thrown 12 p) ∧ Below w0.heap.size w0 w' ∧ Kept W w' g := by
  obtain ⟨A, c, ov, b, hc, hC, hO, hB, hg⟩ := hR.alloc (.cells (ks.map (Value.int .i64)).toArray kt (0, 0))
  rcases hno with ⟨rfl, rfl⟩ | ⟨t, l', rfl, hno, rfl⟩
  · refine (next_end _ g A c p ov (some ⟨W.heap.size, 0, none⟩) ks.length ks.length b).mono ?_
    rintro e' w3 ⟨rfl, hb3⟩
    exact ⟨rfl, below_step hB hb3, Kept.below (Kept.below (Kept.refl _ _) (below_alloc (Below.refl _ _) _)) hb3⟩
  · refine (next_bad _ g A c e ov t l' (some ⟨W.heap.size, 0, none⟩) ks.length ks b (Kd.C_below hC hB) (C_lit W kt ks hk) (Nat.le_refl _) hk hno).mono ?_
    rintro e' w3 ⟨rfl, hb3⟩
    exact ⟨rfl, below_step hB hb3, Kept.below (Kept.below (Kept.refl _ _) (below_alloc (Below.refl _ _) _)) hb3⟩
theorem Reader.len {w0 W : World} {g : Nat} {l : List Tok} {e : Int} {out : List S40} (h : Reader w0 W g l e out) : lenAt g W = l.length := by
  obtain ⟨A, c, ov, b, _⟩ := h
  exact lenAt_of b
def DefEnd (w0 W : World) (g : Nat) (e : Int) (o : Except (Int × Int) (List S40 × List Tok)) (e' : Ending) (W' : World) : Prop :=
  match o with
  | .ok (out', l') => e' = .returned (.tuple #[]) ∧ Reader w0 W' g l' e out' ∧ Kept W W' g
  | .error (c, p) => e' = .panicked (thrown c p) ∧ Below w0.heap.size w0 W' ∧ Kept W W' g
theorem next_in1 (w0 W : World) (g : Nat) (e : Int) (out : List S40) (t : Tok) (l : List Tok) (n : Int) (hR : Reader w0 W g (t :: l) e out) (hyes : t.f0 = n) :
    Calls Try.prog 22 #[.pointer (some ⟨g, 0, none⟩), .slice (some ⟨W.heap.size, 0, none⟩) 1 1] (W.alloc (.cells #[.int .i64 n] 3 (0, 0))) fun e' w' => e' = .returned (.agg #[.int .i64 t.f0, .string t.f1, .int .i64 t.f2]) ∧ Reader w0 w' g l e out ∧ Kept W w' g := next_in w0 W g e out t l [n] 3 hR (by simp) (by simp [hyes])
theorem next_not1 (w0 W : World) (g : Nat) (e : Int) (out : List S40) (l : List Tok) (n : Int) (hR : Reader w0 W g l e out) (p : Int) (hno : (l = [] ∧ p = e) ∨ ∃ t l', l = t :: l' ∧ t.f0 ≠ n ∧ p = t.f2) :
    Calls Try.prog 22 #[.pointer (some ⟨g, 0, none⟩), .slice (some ⟨W.heap.size, 0, none⟩) 1 1] (W.alloc (.cells #[.int .i64 n] 3 (0, 0))) fun e' w' => e' = .panicked (thrown 12 p) ∧ Below w0.heap.size w0 w' ∧ Kept W w' g :=
  next_not w0 W g e out l [n] 3 hR (by simp) p (hno.imp id (fun ⟨t, l', h1, h2, h3⟩ => ⟨t, l', h1, by simpa using h2, h3⟩))
set_option maxHeartbeats 400000 in
theorem def_not (w0 W : World) (g : Nat) (l : List Tok) (e : Int) (out : List S40) (hR : Reader w0 W g l e out) (p : Int) (hno : (l = [] ∧ p = e) ∨ ∃ t l', l = t :: l' ∧ t.f0 ≠ 1 ∧ p = t.f2) :
    Calls Try.prog 17 #[.pointer (some ⟨g, 0, none⟩)] W fun e' w' => e' = .panicked (thrown 12 p) ∧ Below w0.heap.size w0 w' ∧ Kept W w' g := by
  have HX := Aside0.mk (next_not1 w0 W g e out l 1 hR p hno)
  have ll := hR.lt
  clear hR hno
  go_enter Try.func17, Try.ntmps17
  go_wp2_with (first | (go_at_call 22; refine (HX.out).mono ?_; rintro e' w3 ⟨rfl, hb3⟩))
  exact ⟨rfl, rfl, hb3⟩
set_option maxHeartbeats 400000 in
theorem def_not2 (w0 W : World) (g : Nat) (t : Tok) (l : List Tok) (e : Int) (out : List S40) (hR : Reader w0 W g (t :: l) e out) (ht : t.f0 = 1) (p : Int) (hno : (l = [] ∧ p = e) ∨ ∃ t l', l = t :: l' ∧ t.f0 ≠ 3 ∧ p = t.f2) :
    Calls Try.prog 17 #[.pointer (some ⟨g, 0, none⟩)] W fun e' w' => e' = .panicked (thrown 12 p) ∧ Below w0.heap.size w0 w' ∧ Kept W w' g := by
  have HX := Aside0.mk (next_in1 w0 W g e out t l 1 hR ht)
  have HN := Aside0.mk hno
  have ll := hR.lt
  clear hR hno ht
  go_enter Try.func17, Try.ntmps17
  go_wp2_with (first
    | (go_at_call 22; with_reducible refine (HX.out).mono ?_; rintro e' w3 ⟨rfl, hR3, hK3⟩; have hy := next_not1 w0 (w3.alloc (.cells #[.int .i64 t.f0, .string t.f1, .int .i64 t.f2] 38 (0, 0))) g e out l 3 (Reader.alloc hR3 _) p HN.out; rw [World.size_alloc] at hy; have HY := Aside0.mk hy; clear hy; have HK3 := Aside0.mk (Kept.below hK3 (below_alloc (Below.refl _ _) (.cells #[.int .i64 t.f0, .string t.f1, .int .i64 t.f2] 38 (0, 0)))); clear hR3 hK3)
    | (go_at_call 22; with_reducible refine (HY.out).mono ?_; rintro e' w4 ⟨rfl, hb3⟩))
  exact ⟨rfl, rfl, hb3.1, Kept.trans HK3.out hb3.2⟩
set_option maxHeartbeats 3200000 in
theorem def_bars (w0 W : World) (g : Nat) (t u : Tok) (l : List Tok) (e : Int) (out : List S40) (hR : Reader w0 W g (t :: u :: l) e out) (ht : t.f0 = 1) (hu : u.f0 = 3) (hl : l.length ≤ 1000000000) (o : Except (Int × Int) (List S40 × List Tok)) (ho : barsGo t e (l.length + 1) l out = o) :
    Calls Try.prog 17 #[.pointer (some ⟨g, 0, none⟩)] W (DefEnd w0 W g e o) := by
  have HX := Aside0.mk (next_in1 w0 W g e out t (u :: l) 1 hR ht)
  have HO := Aside0.mk ho
  have HM2 := Aside0.mk hu
  have ll := hR.lt
  clear hR ho ht hu
  go_enter Try.func17, Try.ntmps17
  go_wp2_with (first
    | (go_at_call 22; with_reducible refine (HX.out).mono ?_; rintro e' w3 ⟨rfl, hR3, hK3⟩; have hy := next_in1 w0 (w3.alloc (.cells #[.int .i64 t.f0, .string t.f1, .int .i64 t.f2] 38 (0, 0))) g e out u l 3 (Reader.alloc hR3 _) HM2.out; rw [World.size_alloc] at hy; have HY := Aside0.mk hy; clear hy; have HK3 := Aside0.mk (Kept.below hK3 (below_alloc (Below.refl _ _) (.cells #[.int .i64 t.f0, .string t.f1, .int .i64 t.f2] 38 (0, 0)))); have HT3 := Aside0.mk (blk_new w3 (.cells #[.int .i64 t.f0, .string t.f1, .int .i64 t.f2] 38 (0, 0))); have l3 := hR3.lt; clear hR3 hK3)
    | (go_at_call 22; with_reducible refine (HY.out).mono ?_; rintro e' w4 ⟨rfl, hR4, hK4⟩; have HR4 := Aside0.mk hR4; have HK4 := Aside0.mk (Kept.trans HK3.out hK4); have HT4 := Aside0.mk (Kept.at hK4 HT3.out (Nat.ne_of_gt l3) (by decide)); clear hR4 hK4))
  go_loopw [9] (fun v9 w' => ∃ (l' : List Tok) (out' : List S40) (k : Nat), Aside0 (Reader w0 w' g l' e out') ∧ Aside0 (Kept W w' g) ∧ Aside0 (w'.heap[w3.heap.size]? = some (.cells #[.int .i64 t.f0, .string t.f1, .int .i64 t.f2] 38 (0, 0))) ∧ Aside0 (barsGo t e k l' out' = o) ∧ Aside0 (l'.length < k) ∧ Aside0 (l'.length ≤ 1000000000) ∧ v9 = v9) (fun _ w' => lenAt g w')
  case atStart => exact ⟨l, out, l.length + 1, HR4, HK4, HT4, HO, ⟨Nat.lt_succ_self _⟩, ⟨hl⟩, rfl⟩
  case round =>
    obtain ⟨l', out', k, HA, HKA, HTA, HG, HLK, HLL, _⟩ := hrel
    obtain ⟨k, rfl⟩ : ∃ m, k = m + 1 := ⟨k - 1, by have := HLK.out; omega⟩
    have c0 : wr.cell? ⟨w3.heap.size, 0, none⟩ = some (.int .i64 t.f0) := (blk_cell HTA.out 0).trans rfl
    have c1 : wr.cell? ⟨w3.heap.size, 1, none⟩ = some (.string t.f1) := (blk_cell HTA.out 1).trans rfl
    have c2 : wr.cell? ⟨w3.heap.size, 2, none⟩ = some (.int .i64 t.f2) := (blk_cell HTA.out 2).trans rfl
    have hg' := HG.out
    simp only [barsGo] at hg'
    have HALL := fun q hq => Aside0.mk (alt_any w0 wr g l' e out' t HA.out HLL.out q hq)
    cases hq : altGo t e out'.length l' [] with
    | error p =>
      obtain ⟨pc, pp⟩ := p
      rw [hq] at hg'
      simp only at hg'
      subst hg'
      have HALT := HALL _ hq
      clear HALL hq
      go_wp2_with (first | (go_at_call 23; refine (HALT.out).mono ?_; rintro e' w5 ⟨rfl, hb5⟩))
      exact ⟨rfl, rfl, hb5.1, Kept.trans HKA.out hb5.2⟩
    | ok q =>
      obtain ⟨r, z, l5⟩ := q
      have hless := altGo_less t e out'.length l' [] _ hq
      simp only at hless
      rw [hq] at hg'
      simp only at hg'
      have HALT := HALL _ hq
      have HG2 := Aside0.mk hg'
      have HLE := Aside0.mk (Reader.len HA.out)
      have HLS := Aside0.mk hless
      clear HALL hq hg' hless
      by_cases hz : z.f0 = 4
      · have hd : decide (z.f0 = 4) = true := decide_eq_true hz
        go_wp2_with (first | (go_at_call 23; refine (HALT.out).mono ?_; simp only [AltEnd, hd]; rintro e' w5 ⟨rfl, hR5, hK5⟩; have HR5 := Aside0.mk hR5; have HK5 := Aside0.mk (Kept.trans HKA.out hK5); have HT5 := Aside0.mk (Kept.at hK5 HTA.out (by omega) (by decide)); clear hR5 hK5))
        have h4 := HG2.out
        rw [if_pos hz] at h4
        refine ⟨⟨l5, out' ++ [⟨t, r⟩], k, HR5, HK5, HT5, ⟨h4⟩, ⟨?_⟩, ⟨?_⟩, trivial⟩, ?_⟩
        · have := HLK.out; have := HLS.out; omega
        · have := HLL.out; have := HLS.out; omega
        · rw [HLE.out, HR5.out.len]; exact HLS.out
      · have hd : decide (z.f0 = 4) = false := decide_eq_false hz
        go_wp2_with (first | (go_at_call 23; refine (HALT.out).mono ?_; simp only [AltEnd, hd]; rintro e' w5 ⟨rfl, hR5, hK5⟩; have HR5 := Aside0.mk hR5; have HK5 := Aside0.mk (Kept.trans HKA.out hK5); clear hR5 hK5))
        have h4 := HG2.out
        rw [if_neg hz] at h4
        subst h4
        exact bodyPost_ret (results_none rfl _ _ _) rfl ⟨rfl, HR5.out, HK5.out⟩
/-- A definition is read. -/
theorem def_any (w0 W : World) (g : Nat) (l : List Tok) (e : Int) (out : List S40) (hR : Reader w0 W g l e out) (hl : l.length ≤ 1000000000) (o : Except (Int × Int) (List S40 × List Tok)) (ho : defGo e l out = o) :
    Calls Try.prog 17 #[.pointer (some ⟨g, 0, none⟩)] W (DefEnd w0 W g e o) := by
  subst ho
  cases l with
  | nil => exact def_not w0 W g [] e out hR e (Or.inl ⟨rfl, rfl⟩)
  | cons t l =>
    simp only [defGo]
    by_cases ht : t.f0 = 1
    · rw [if_pos ht]
      cases l with
      | nil => exact def_not2 w0 W g t [] e out hR ht e (Or.inl ⟨rfl, rfl⟩)
      | cons u l =>
        simp only
        by_cases hu : u.f0 = 3
        · rw [if_pos hu]
          exact def_bars w0 W g t u l e out hR ht hu (by simp only [List.length_cons] at hl; omega) _ rfl
        · rw [if_neg hu]
          exact def_not2 w0 W g t (u :: l) e out hR ht u.f2 (Or.inr ⟨u, l, rfl, hu, rfl⟩)
    · rw [if_neg ht]
      exact def_not w0 W g (t :: l) e out hR t.f2 (Or.inr ⟨t, l, rfl, ht, rfl⟩)
end Go.Proofs.Ytilldpmlcgikdaa.P
