/- Alts. -/
import Derived.Test.YtilldpmlcgikdaaReadCaught
set_option linter.unusedVariables false
set_option linter.unusedSimpArgs false
namespace Go.Proofs.Ytilldpmlcgikdaa.P
open Go.RowKit Go.Proofs.YtilldpmlcgikdaaW.PrintWords Go.Proofs.YtilldpmlcgikdaaW.PrintLast Go.Proofs.YtilldpmlcgikdaaW.PrintMore Go.Proofs.Ytilldpmlcgikdaa.Base
def altsGo (e : Int) : Nat → List Tok → List S40 → Except (Int × Int) (List S40)
  | 0, _, _ => .error (0, 0)
  | k + 1, l, out => match defGo e l out with
    | .error p => .error p
    | .ok (out', l') => if l' = [] then .ok out' else altsGo e k l' out'
def AltsPost (w0 : World) (r1 : List S40) (r2 r3 : Int) (e : Ending) (w' : World) : Prop :=
  ∃ v0_ : Value, e = .returned (.tuple #[v0_, .agg #[.int .i64 r2, .int .i64 r3]]) ∧ Kd.R k40 40 w' w0.heap.size (fun _ => True) v0_ r1 ∧ Below w0.heap.size w0 w'
set_option maxHeartbeats 1600000 in
theorem alts_first (A : Option Addr) (c : Nat) (l : List Tok) (e : Int) (w : World) (hC : Kd.C k38 w A l.length l) (hc : l.length ≤ c) (hl : l.length ≤ 1000000000) (pc pp : Int) (hd : defGo e l [] = .error (pc, pp)) :
    Calls Try.prog 11 #[.slice A l.length c, .int .i64 e] w (AltsPost w [] pc pp) := by
  have hmf : ∀ (fn : Fn) (first cap : Array Value) (w : World), (Instr.makeFunc fn first cap).run Try.prog w = .ok (.func fn first cap) w := fun _ _ _ _ => rfl
  have hR : Reader w (((w.alloc (.cells #[.slice none 0 0] 25 (0, 0))).alloc (.cells #[.int .i64 0, .int .i64 0] 28 (0, 0))).alloc (.cells #[.slice A l.length c, .int .i64 e, .slice none 0 0] 51 (0, 0))) (w.heap.size + 1 + 1) l e [] := by
    refine ⟨A, c, .slice none 0 0, ?_, hc, hC, Kd.R_nil _ _ _ _ _, ?_, by omega⟩
    · have := blk_new ((w.alloc (.cells #[.slice none 0 0] 25 (0, 0))).alloc (.cells #[.int .i64 0, .int .i64 0] 28 (0, 0))) (.cells #[.slice A l.length c, .int .i64 e, .slice none 0 0] 51 (0, 0))
      simp only [World.size_alloc] at this
      exact this
    · exact below_alloc (below_alloc (below_alloc (Below.refl _ _) _) _) _
  have HX := Aside0.mk (def_any _ _ _ l e [] hR hl _ hd)
  clear hR hd hC
  go_enter_defers Try.func11, Try.ntmps11
  go_wp2_with (first | (go_at_call 17; refine (HX.out).mono ?_; rintro e' w3 ⟨rfl, hb3, hk3⟩))
  have hl3 := Kept.at hk3 (k := w.heap.size) (cells := #[.slice none 0 0]) (t := 25) (blk_alloc (blk_alloc (blk_new _ _) _) _) (by omega) (by decide)
  have hf3 := Kept.at hk3 (k := w.heap.size + 1) (cells := #[.int .i64 0, .int .i64 0]) (t := 28) (blk_alloc (by have := blk_new (w.alloc (.cells #[.slice none 0 0] 25 (0, 0))) (.cells #[.int .i64 0, .int .i64 0] 28 (0, 0)); rw [World.size_alloc] at this; exact this) _) (by omega) (by decide)
  refine leaves_cons (f := 16) (args := #[.pointer (some ⟨w.heap.size, 0, none⟩), .pointer (some ⟨w.heap.size + 1, 0, none⟩)]) (by simp) (by simp [go_sem]) ?_
  refine (Alts1_caught w.heap.size (w.heap.size + 1) pc pp _ [] w _ hl3 hf3 (Nat.le_refl _) (Nat.le_succ _) hb3).mono ?_
  rintro e u' w4 ⟨rfl, rfl, ⟨hc1, hc2⟩, hb4⟩
  have c0 : w4.cell? ⟨w.heap.size, 0, none⟩ = some (.slice none 0 0) := (blk_cell hc1 0).trans rfl
  have c1 : w4.cell? ⟨w.heap.size + 1, 0, none⟩ = some (.int .i64 pc) := (blk_cell hc2 0).trans rfl
  have c2 : w4.cell? ⟨w.heap.size + 1, 1, none⟩ = some (.int .i64 pp) := (blk_cell hc2 1).trans rfl
  refine ⟨.tuple #[.slice none 0 0, .agg #[.int .i64 pc, .int .i64 pp]], by simp [results, Try.results11, go_sem, c0, c1, c2], ⟨_, rfl, Kd.R_nil _ _ _ _ _, hb4⟩⟩
theorem bars_less (x : Tok) (e : Int) (k : Nat) : ∀ l out q, barsGo x e k l out = .ok q → q.2.length < l.length := by
  induction k with
  | zero => intro l out q h; simp [barsGo] at h
  | succ k ih =>
    intro l out q h
    simp only [barsGo] at h
    split at h
    · cases h
    · rename_i r t l' hq
      have h1 := altGo_less _ _ _ _ _ _ hq
      simp only at h1
      split at h
      · have := ih _ _ _ h; omega
      · injection h with h; subst h; exact h1
theorem def_less (e : Int) (l : List Tok) (out : List S40) (q : List S40 × List Tok) (h : defGo e l out = .ok q) : q.2.length < l.length := by
  cases l with
  | nil => simp [defGo] at h
  | cons t l =>
    simp only [defGo] at h
    split at h
    · cases l with
      | nil => cases h
      | cons u l =>
        simp only at h
        split at h
        · have := bars_less _ _ _ _ _ _ h; simp only [List.length_cons]; omega
        · cases h
    · cases h
def AltsEnd (w0 : World) (o : Except (Int × Int) (List S40)) (e : Ending) (w' : World) : Prop :=
  match o with
  | .ok r => AltsPost w0 r 0 0 e w'
  | .error (c, p) => AltsPost w0 [] c p e w'
set_option maxHeartbeats 3200000 in
theorem alts_main (A : Option Addr) (c : Nat) (l : List Tok) (e : Int) (w : World) (hC : Kd.C k38 w A l.length l) (hc : l.length ≤ c) (hl : l.length ≤ 1000000000) (l1 : List Tok) (out1 : List S40) (hd : defGo e l [] = .ok (out1, l1)) (hl1 : l1.length ≤ 1000000000) (o : Except (Int × Int) (List S40)) (ho : (if l1 = [] then .ok out1 else altsGo e (l1.length + 1) l1 out1) = o) :
    Calls Try.prog 11 #[.slice A l.length c, .int .i64 e] w (AltsEnd w o) := by
  have hmf : ∀ (fn : Fn) (first cap : Array Value) (w : World), (Instr.makeFunc fn first cap).run Try.prog w = .ok (.func fn first cap) w := fun _ _ _ _ => rfl
  have hR : Reader w (((w.alloc (.cells #[.slice none 0 0] 25 (0, 0))).alloc (.cells #[.int .i64 0, .int .i64 0] 28 (0, 0))).alloc (.cells #[.slice A l.length c, .int .i64 e, .slice none 0 0] 51 (0, 0))) (w.heap.size + 1 + 1) l e [] := by
    refine ⟨A, c, .slice none 0 0, ?_, hc, hC, Kd.R_nil _ _ _ _ _, ?_, by omega⟩
    · have := blk_new ((w.alloc (.cells #[.slice none 0 0] 25 (0, 0))).alloc (.cells #[.int .i64 0, .int .i64 0] 28 (0, 0))) (.cells #[.slice A l.length c, .int .i64 e, .slice none 0 0] 51 (0, 0))
      simp only [World.size_alloc] at this
      exact this
    · exact below_alloc (below_alloc (below_alloc (Below.refl _ _) _) _) _
  have HX := Aside0.mk (def_any _ _ _ l e [] hR hl _ hd)
  have HO := Aside0.mk ho
  clear hR hd hC ho
  go_enter_defers Try.func11, Try.ntmps11
  go_wp2_with (first | (go_at_call 17; refine (HX.out).mono ?_; rintro e' w3 ⟨rfl, hR3, hK3⟩))
  have hl3 := Aside0.mk (Kept.at hK3 (k := w.heap.size) (cells := #[.slice none 0 0]) (t := 25) (blk_alloc (blk_alloc (blk_new _ _) _) _) (by omega) (by decide))
  have hf3 := Aside0.mk (Kept.at hK3 (k := w.heap.size + 1) (cells := #[.int .i64 0, .int .i64 0]) (t := 28) (blk_alloc (by have := blk_new (w.alloc (.cells #[.slice none 0 0] 25 (0, 0))) (.cells #[.int .i64 0, .int .i64 0] 28 (0, 0)); rw [World.size_alloc] at this; exact this) _) (by omega) (by decide))
  have HR3 := Aside0.mk hR3
  clear hR3 hK3
  go_loopw [14] (fun v14 w' => ∃ (l' : List Tok) (out' : List S40) (k : Nat), Aside0 (Reader w w' (w.heap.size + 1 + 1) l' e out') ∧ Aside0 (w'.heap[w.heap.size]? = some (.cells #[.slice none 0 0] 25 (0, 0))) ∧ Aside0 (w'.heap[w.heap.size + 1]? = some (.cells #[.int .i64 0, .int .i64 0] 28 (0, 0))) ∧ Aside0 ((if l' = [] then .ok out' else altsGo e k l' out') = o) ∧ Aside0 (l'.length < k) ∧ Aside0 (l'.length ≤ 1000000000) ∧ v14 = v14) (fun _ w' => lenAt (w.heap.size + 1 + 1) w')
  case atStart => exact ⟨l1, out1, l1.length + 1, HR3, hl3, hf3, HO, ⟨Nat.lt_succ_self _⟩, ⟨hl1⟩, rfl⟩
  case round =>
    obtain ⟨l', out', k, HA, HL, HF, HG, HLK, HLL, _⟩ := hrel
    cases l' with
    | nil =>
      have ho := HG.out
      simp only [if_true] at ho
      subst ho
      obtain ⟨A', c', ov', b, hlc', hC', hOV, hB', hg'⟩ := HA.out
      obtain ⟨OA, OC, hov⟩ := Kd.R_slice hOV
      subst hov
      have HOV := Aside0.mk hOV
      have HB := Aside0.mk hB'
      have HBK := Aside0.mk b
      have x0 : wr.cell? ⟨w.heap.size + 1 + 1, 0, none⟩ = some (.slice A' 0 c') := (blk_cell b 0).trans rfl
      have x2 : wr.cell? ⟨w.heap.size + 1 + 1, 2, none⟩ = some (.slice OA out'.length OC) := (blk_cell b 2).trans rfl
      have c0 : wr.cell? ⟨w.heap.size, 0, none⟩ = some (.slice none 0 0) := (blk_cell HL.out 0).trans rfl
      have c1 : wr.cell? ⟨w.heap.size + 1, 0, none⟩ = some (.int .i64 0) := (blk_cell HF.out 0).trans rfl
      have c2 : wr.cell? ⟨w.heap.size + 1, 1, none⟩ = some (.int .i64 0) := (blk_cell HF.out 1).trans rfl
      have f0 := blk_frozen HL.out 0
      have f1 := blk_frozen HF.out 0
      have f2 := blk_frozen HF.out 1
      clear b hlc' hC' hOV hB' hg'
      go_wp2
      refine leaves_cons (f := 16) (args := #[.pointer (some ⟨w.heap.size, 0, none⟩), .pointer (some ⟨w.heap.size + 1, 0, none⟩)]) (by simp) (by simp [go_sem]) ?_
      refine (Alts1_idle _ _ _).mono ?_
      rintro e' u' w'' ⟨rfl, rfl, rfl⟩
      refine ⟨.tuple #[.slice OA out'.length OC, .agg #[.int .i64 0, .int .i64 0]], by simp [results, Try.results11, go_sem, c0, c1, c2, f0, f1, f2], ⟨_, rfl, ?_, ?_⟩⟩
      · refine Kd.R_mono (Kd.R_step (Kd.R_types (Kd.R_types HOV.out HL.out (fun q hq => ?_)) HF.out (fun q hq => ?_)) (fun k hk hlt => ?_)) (fun _ _ => trivial)
        · exact (show ∀ q ∈ (40 :: (k40).E), 25 ≠ q by decide) q hq ∘ Eq.symm
        · exact (show ∀ q ∈ (40 :: (k40).E), 28 ≠ q by decide) q hq ∘ Eq.symm
        · rw [Below.heap_setCell _ _ _ _ hk.2, Below.heap_setCell _ _ _ _ hk.2, Below.heap_setCell _ _ _ _ hk.1.2]
      · have h1 : w.heap.size ≤ w.heap.size := Nat.le_refl _
        have h2 : w.heap.size ≤ w.heap.size + 1 := Nat.le_succ _
        with_reducible repeat (first | exact HB.out | apply below_alloc | apply pw_below_drewN | apply below_drew1 | (refine below_set ?_ h1) | (refine below_set ?_ h2))
    | cons t l' =>
      have ho := HG.out
      rw [if_neg (by simp)] at ho
      obtain ⟨k, rfl⟩ : ∃ m, k = m + 1 := ⟨k - 1, by have := HLK.out; omega⟩
      simp only [altsGo] at ho
      have HALL := fun q hq => Aside0.mk (def_any w wr _ (t :: l') e out' HA.out HLL.out q hq)
      obtain ⟨A', c', ov', b, hrest⟩ := HA.out
      have x0 : wr.cell? ⟨w.heap.size + 1 + 1, 0, none⟩ = some (.slice A' (t :: l').length c') := (blk_cell b 0).trans rfl
      clear b hrest
      cases hq : defGo e (t :: l') out' with
      | error p =>
        obtain ⟨pc, pp⟩ := p
        rw [hq] at ho
        simp only at ho
        subst ho
        have HD := HALL _ hq
        clear HALL hq
        go_wp2_with (first | (go_at_call 17; refine (HD.out).mono ?_; rintro e' w5 ⟨rfl, hb5, hk5⟩))
        have hl5 := Kept.at hk5 HL.out (by omega) (by decide)
        have hf5 := Kept.at hk5 HF.out (by omega) (by decide)
        refine leaves_cons (f := 16) (args := #[.pointer (some ⟨w.heap.size, 0, none⟩), .pointer (some ⟨w.heap.size + 1, 0, none⟩)]) (by simp) (by simp [go_sem]) ?_
        refine (Alts1_caught w.heap.size (w.heap.size + 1) pc pp _ [] w _ hl5 hf5 (Nat.le_refl _) (Nat.le_succ _) hb5).mono ?_
        rintro e u' w4 ⟨rfl, rfl, ⟨hc1, hc2⟩, hb4⟩
        have c0 : w4.cell? ⟨w.heap.size, 0, none⟩ = some (.slice none 0 0) := (blk_cell hc1 0).trans rfl
        have c1 : w4.cell? ⟨w.heap.size + 1, 0, none⟩ = some (.int .i64 pc) := (blk_cell hc2 0).trans rfl
        have c2 : w4.cell? ⟨w.heap.size + 1, 1, none⟩ = some (.int .i64 pp) := (blk_cell hc2 1).trans rfl
        refine ⟨.tuple #[.slice none 0 0, .agg #[.int .i64 pc, .int .i64 pp]], by simp [results, Try.results11, go_sem, c0, c1, c2], ⟨_, rfl, Kd.R_nil _ _ _ _ _, hb4⟩⟩
      | ok q =>
        obtain ⟨out5, l5⟩ := q
        rw [hq] at ho
        simp only at ho
        have HLS := Aside0.mk (def_less e (t :: l') out' _ hq)
        have HO5 := Aside0.mk ho
        have HLE := Aside0.mk (Reader.len HA.out)
        have HD := HALL _ hq
        clear HALL hq ho
        go_wp2_with (first | (go_at_call 17; refine (HD.out).mono ?_; rintro e' w5 ⟨rfl, hR5, hk5⟩; have hl5 := Aside0.mk (Kept.at hk5 HL.out (by omega) (by decide)); have hf5 := Aside0.mk (Kept.at hk5 HF.out (by omega) (by decide)); have HR5 := Aside0.mk hR5; clear hR5 hk5))
        refine ⟨⟨l5, out5, k, HR5, hl5, hf5, HO5, ⟨?_⟩, ⟨?_⟩, trivial⟩, ?_⟩
        · have := HLK.out; have := HLS.out; omega
        · have := HLL.out; have := HLS.out; omega
        · rw [HLE.out, HR5.out.len]; exact HLS.out
end Go.Proofs.Ytilldpmlcgikdaa.P
