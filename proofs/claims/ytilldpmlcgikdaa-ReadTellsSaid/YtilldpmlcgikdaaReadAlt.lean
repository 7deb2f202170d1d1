/- The reader's method alt. -/
import Derived.Test.YtilldpmlcgikdaaReadWalk
set_option linter.unusedVariables false
set_option linter.unusedSimpArgs false
namespace Go.Proofs.Ytilldpmlcgikdaa.P
open Go.RowKit Go.Proofs.YtilldpmlcgikdaaW.PrintWords Go.Proofs.YtilldpmlcgikdaaW.PrintLast Go.Proofs.YtilldpmlcgikdaaW.PrintMore Go.Proofs.Ytilldpmlcgikdaa.Base
/-- The alternative is put behind the others. -/
theorem AltAt.ends {w0 W : World} {g : Nat} {e : Int} {out : List S40} {left : Tok} {l r : List Tok} {A : Option Addr} {c : Nat} {ov rv : Value} {w1 w2 : World} {x : S40} {v1 : Value} (hg : g < W.heap.size) (hg0 : w0.heap.size ≤ g) (h : AltAt w0 W g e out left l r A c ov rv w1)
    (ho : Kd.R k40 40 w2 w0.heap.size (fun _ => True) v1 (out ++ [x])) (hgr : w1.grownBy w2 ov.ownBlock) : Reader w0 (w2.setCell ⟨g, 2, none⟩ v1) g l e (out ++ [x]) ∧ Kept W (w2.setCell ⟨g, 2, none⟩ v1) g := by
  have hbase := Kd.R_base h.O
  have hs := h.size
  have rd' := blk_grown h.rd hgr (Kd.R_ne h.O h.rd (by decide))
  refine ⟨⟨A, c, v1, blk_put (cs := #[.slice A l.length c, .int .i64 e, ov]) rd' 2 _ rfl, h.lc, h.C, Kd.R_set ho rd' (by decide) 2 _, (h.B.grown hgr (by omega) hbase).setCell hg0 _, hg0⟩, ?_, ?_⟩
  · have := hgr.size
    simp only [World.setCell, Array.size_modify]
    omega
  · intro k cells t hk hne ht
    have hlt : k < W.heap.size := by
      rcases Nat.lt_or_ge k W.heap.size with hh | hh
      · exact hh
      · rw [Array.getElem?_eq_none hh] at hk; cases hk
    have hk1 := h.kept k hlt hne
    rw [Below.heap_setCell _ _ _ _ hne]
    refine (hgr.block k (by omega) (fun he => ?_)).trans hk1
    exact Kd.R_ne h.O (hk1.trans hk) (fun he => ht he.symm) he
set_option maxHeartbeats 6400000 in
theorem alt_any (w0 W : World) (g : Nat) (l : List Tok) (e : Int) (out : List S40) (left : Tok) (hR : Reader w0 W g l e out) (hl : l.length ≤ 1000000000) (o : Except (Int × Int) (List Tok × Tok × List Tok)) (ho : altGo left e out.length l [] = o) :
    Calls Try.prog 23 #[.pointer (some ⟨g, 0, none⟩), .agg #[.int .i64 left.f0, .string left.f1, .int .i64 left.f2]] W (AltEnd w0 W g left e out o) := by
  obtain ⟨A, c, ov, BK, hlc, hC, hO, hB, hg⟩ := hR
  have HO := Aside0.mk ho
  have ll := blk_lt BK
  clear ho
  go_enter Try.func23, Try.ntmps23
  go_wp2
  have hne : g ≠ W.heap.size := by omega
  have hne5 : g ≠ W.heap.size + 1 := by omega
  go_loopw [6] (fun v6 w' => ∃ (l' r : List Tok) (A : Option Addr) (c : Nat) (ov rv : Value), Aside0 (AltAt w0 W g e out left l' r A c ov rv w') ∧ Aside0 (altGo left e out.length l' r = o) ∧ Aside0 (l'.length + r.length ≤ 1000000000) ∧ v6 = v6) (fun _ w' => lenAt g w')
  case atStart =>
    refine ⟨l, [], A, c, ov, .slice none 0 0, ⟨⟨?_, hlc, hC, ?_, ?_, ?_, Kd.R_nil _ _ _ _ _, ?_, ?_, ?_⟩⟩, ⟨HO.out⟩, ⟨by simpa using hl⟩, rfl⟩
    · exact blk_alloc (blk_alloc BK _) _
    · refine Kd.R_alloc (Kd.R_alloc ?_ _) _
      exact Kd.R_mono (Kd.R_bound hO) (fun k hk => ⟨by have := hk.2.2.1; omega, by simp [Value.ownBlock]⟩)
    · exact blk_alloc (blk_new _ _) _
    · have := blk_new (W.alloc (.cells #[.int .i64 left.f0, .string left.f1, .int .i64 left.f2] 38 (0, 0))) (.cells #[.int .i64 left.f0, .string left.f1, .int .i64 left.f2, .slice none 0 0] 40 (0, 0))
      rw [World.size_alloc] at this
      exact this
    · exact below_alloc (below_alloc hB _) _
    · intro k hk _
      exact (below_alloc (below_alloc (Below.refl W.heap.size W) _) _).block k hk
    · simp
  case round =>
    obtain ⟨l', r, A', c', ov', rv, HA, HG, HL, _⟩ := hrel
    cases l' with
    | nil =>
      have ho := HG.out
      simp only [altGo] at ho
      subst ho
      have HB2 := Aside0.mk HA.out.B
      go_wp2_with (first | (go_at_call 22; refine (next_end _ g A' c' e ov' (some ⟨wr.heap.size, 0, none⟩) 4 4 (blk_alloc HA.out.rd _)).mono ?_; rintro e' w3 ⟨rfl, hb3⟩))
      exact ⟨rfl, rfl, below_step (below_alloc HA.out.B _) hb3, HA.out.kept' (below_step (below_alloc (Below.refl _ _) _) hb3)⟩
    | cons t l' =>
      by_cases h12 : t.f0 = 1 ∨ t.f0 = 2
      · obtain ⟨tk, ts, ta⟩ := t
        have h12' : tk = 1 ∨ tk = 2 := h12
        have ho := HG.out
        simp only [altGo, if_pos h12] at ho
        have HG2 := Aside0.mk ho
        have hll := HL.out
        simp only [List.length_cons] at hll
        have HLL := Aside0.mk hll
        have HLT := Aside0.mk (lenAt_of HA.out.rd)
        clear ho HG h12 hll HL
        rcases h12' with rfl | rfl
        · have hmem : ((⟨1, ts, ta⟩ : Tok)).f0 ∈ ([1, 2, 4, 5] : List Int) := by simp
          go_wp2_with (first
            | (go_at_call 22; refine (next_ok _ g A' c' e ov' (⟨1, ts, ta⟩ : Tok) l' (some ⟨wr.heap.size, 0, none⟩) 4 [1, 2, 4, 5] (blk_alloc HA.out.rd _) (Kd.C_below HA.out.C (below_alloc HA.out.B _)) HA.out.lc (C_lit wr _ [1, 2, 4, 5] (by decide)) (by decide) (by decide) hmem).mono ?_; rintro e' w3 ⟨rfl, hb3⟩; have HN := Aside0.mk (AltAt.next ll hg (HA.out.alloc _) hb3); clear hb3; have x0 : w3.cell? ⟨W.heap.size + 1, 3, none⟩ = some rv := (blk_cell HN.out.b5 3).trans rfl; have x1 := blk_frozen HN.out.b5 3; have x2 := blk_lt HN.out.b5)
            | ((with_reducible refine gate_builtin (b := .append) (xs := #[.tmp 21, .tmp 23]) rfl ?_); go_loud (at_builtin; (refine Kd.R_append k38 (w0 := w3.alloc (.cells #[.int .i64 1, .string ts, .int .i64 ta] 38 (0, 0))) W.heap.size rfl (.tmp 21) (.tmp 23) 22 38 (.agg #[(.int .i64 0), (.string ⟨#[]⟩), (.int .i64 0)]) 32 rfl Try.underlying22 info38 rfl (by decide) (by omega) rv r (⟨1, ts, ta⟩ : Tok) [.int .i64 1, .string ts, .int .i64 ta] (fun k => k ≠ W.heap.size) (fun _ => False) rfl ?aX ?aP (fun _ hk => hk.elim) ?aF ?aO ?aB ?aS ?aL ?_); (case aX => simp [Act.eval]); (case aP => exact k38_mkM _ _ _ (⟨1, ts, ta⟩ : Tok)); (case aF => intro k hk; have := HN.out.size; simp at hk; omega); (case aO => exact (HN.out.alloc _).R); (case aB => exact Below.refl _ _); (case aS => have := HN.out.size; simp; omega); (case aL => have := HLL.out; omega); intro v1 w5 ho hb hg5 hat; (obtain ⟨VA, VC, hv1⟩ := Kd.R_slice ho); subst hv1; have HM := Aside0.mk (AltAt.more ll (Nat.le_trans hg (Nat.le_of_lt ll)) (HN.out.alloc _) ho hg5 hat); clear ho hb hat; have HNA := HN.out.alloc (.cells #[.int .i64 1, .string ts, .int .i64 ta] 38 (0, 0)); have B5 := blk_grown HNA.b5 hg5 (Kd.R_ne HNA.R HNA.b5 (by decide)); have y1 := blk_frozen B5 3; have y0 : w5.cell? ⟨W.heap.size + 1, 3, none⟩ = some rv := (blk_cell B5 3).trans rfl; have y2 := blk_lt B5; clear B5 HNA; clear hg5)))
          rw [List.length_append] at HM
          refine ⟨⟨l', r ++ [⟨1, ts, ta⟩], _, _, _, _, HM, HG2, ⟨?_⟩, trivial⟩, ?_⟩
          · have := HLL.out
            simp only [List.length_append, List.length_cons, List.length_nil]
            omega
          · have hm := HM.out
            simp only [List.length_cons, List.length_nil] at hm
            rw [HLT.out, lenAt_of hm.rd, List.length_cons]
            omega
        · have hmem : ((⟨2, ts, ta⟩ : Tok)).f0 ∈ ([1, 2, 4, 5] : List Int) := by simp
          go_wp2_with (first
            | (go_at_call 22; refine (next_ok _ g A' c' e ov' (⟨2, ts, ta⟩ : Tok) l' (some ⟨wr.heap.size, 0, none⟩) 4 [1, 2, 4, 5] (blk_alloc HA.out.rd _) (Kd.C_below HA.out.C (below_alloc HA.out.B _)) HA.out.lc (C_lit wr _ [1, 2, 4, 5] (by decide)) (by decide) (by decide) hmem).mono ?_; rintro e' w3 ⟨rfl, hb3⟩; have HN := Aside0.mk (AltAt.next ll hg (HA.out.alloc _) hb3); clear hb3; have x0 : w3.cell? ⟨W.heap.size + 1, 3, none⟩ = some rv := (blk_cell HN.out.b5 3).trans rfl; have x1 := blk_frozen HN.out.b5 3; have x2 := blk_lt HN.out.b5)
            | ((with_reducible refine gate_builtin (b := .append) (xs := #[.tmp 21, .tmp 23]) rfl ?_); go_loud (at_builtin; (refine Kd.R_append k38 (w0 := w3.alloc (.cells #[.int .i64 2, .string ts, .int .i64 ta] 38 (0, 0))) W.heap.size rfl (.tmp 21) (.tmp 23) 22 38 (.agg #[(.int .i64 0), (.string ⟨#[]⟩), (.int .i64 0)]) 32 rfl Try.underlying22 info38 rfl (by decide) (by omega) rv r (⟨2, ts, ta⟩ : Tok) [.int .i64 2, .string ts, .int .i64 ta] (fun k => k ≠ W.heap.size) (fun _ => False) rfl ?aX ?aP (fun _ hk => hk.elim) ?aF ?aO ?aB ?aS ?aL ?_); (case aX => simp [Act.eval]); (case aP => exact k38_mkM _ _ _ (⟨2, ts, ta⟩ : Tok)); (case aF => intro k hk; have := HN.out.size; simp at hk; omega); (case aO => exact (HN.out.alloc _).R); (case aB => exact Below.refl _ _); (case aS => have := HN.out.size; simp; omega); (case aL => have := HLL.out; omega); intro v1 w5 ho hb hg5 hat; (obtain ⟨VA, VC, hv1⟩ := Kd.R_slice ho); subst hv1; have HM := Aside0.mk (AltAt.more ll (Nat.le_trans hg (Nat.le_of_lt ll)) (HN.out.alloc _) ho hg5 hat); clear ho hb hat; have HNA := HN.out.alloc (.cells #[.int .i64 2, .string ts, .int .i64 ta] 38 (0, 0)); have B5 := blk_grown HNA.b5 hg5 (Kd.R_ne HNA.R HNA.b5 (by decide)); have y1 := blk_frozen B5 3; have y0 : w5.cell? ⟨W.heap.size + 1, 3, none⟩ = some rv := (blk_cell B5 3).trans rfl; have y2 := blk_lt B5; clear B5 HNA; clear hg5)))
          rw [List.length_append] at HM
          refine ⟨⟨l', r ++ [⟨2, ts, ta⟩], _, _, _, _, HM, HG2, ⟨?_⟩, trivial⟩, ?_⟩
          · have := HLL.out
            simp only [List.length_append, List.length_cons, List.length_nil]
            omega
          · have hm := HM.out
            simp only [List.length_cons, List.length_nil] at hm
            rw [HLT.out, lenAt_of hm.rd, List.length_cons]
            omega
      · by_cases h45 : t.f0 = 4 ∨ t.f0 = 5
        · obtain ⟨tk, ts, ta⟩ := t
          have h45' : tk = 4 ∨ tk = 5 := h45
          have ho := HG.out
          simp only [altGo, if_neg h12, if_pos h45] at ho
          have HG2 := Aside0.mk ho
          obtain ⟨RA, RC, hrv⟩ := Kd.R_slice HA.out.R
          obtain ⟨OA, OC, hov⟩ := Kd.R_slice HA.out.O
          subst hrv; subst hov
          clear ho HG h12 HL h45
          rcases h45' with rfl | rfl
          · have hmem : ((⟨4, ts, ta⟩ : Tok)).f0 ∈ ([1, 2, 4, 5] : List Int) := by simp
            go_wp2_with (first
              | (go_at_call 22; refine (next_ok _ g A' c' e _ (⟨4, ts, ta⟩ : Tok) l' (some ⟨wr.heap.size, 0, none⟩) 4 [1, 2, 4, 5] (blk_alloc HA.out.rd _) (Kd.C_below HA.out.C (below_alloc HA.out.B _)) HA.out.lc (C_lit wr _ [1, 2, 4, 5] (by decide)) (by decide) (by decide) hmem).mono ?_; rintro e' w3 ⟨rfl, hb3⟩; have HN := Aside0.mk (AltAt.next ll hg (HA.out.alloc _) hb3); clear hb3; have x0 : w3.cell? ⟨W.heap.size + 1, 3, none⟩ = some (.slice RA r.length RC) := (blk_cell HN.out.b5 3).trans rfl; have x1 := blk_frozen HN.out.b5 3; have x2 := blk_lt HN.out.b5; have x3 : w3.cell? ⟨g, 2, none⟩ = some (.slice OA out.length OC) := (blk_cell HN.out.rd 2).trans rfl; have x4 : w3.cell? ⟨W.heap.size, 2, none⟩ = some (.int .i64 left.f2) := (blk_cell HN.out.b3 2).trans rfl; have x6 := Nat.lt_of_succ_lt x2; have x5 := Nat.lt_trans ll x6))
            · have hc : 60 ≤ out.length ∨ 8 < r.length := by omega
              have ho := HG2.out
              rw [if_pos hc] at ho
              subst ho
              exact ⟨rfl, rfl, (HN.out.alloc _).B, (HN.out.alloc _).kept' (Below.refl _ _)⟩
            · have hc : ¬ (60 ≤ out.length ∨ 8 < r.length) := by omega
              have ho := HG2.out
              rw [if_neg hc] at ho
              have HN2 := Aside0.mk (HN.out.alloc (.cells #[.int .i64 4, .string ts, .int .i64 ta] 38 (0, 0)))
              have HT := Aside0.mk (blk_new w3 (.cells #[.int .i64 4, .string ts, .int .i64 ta] 38 (0, 0)))
              refine start_ (n := 11) (S := fun w' : World => w'.heap[g]? = some (.cells #[.slice (if c' = 1 then A' else Option.map (fun x => x.add 3) A') l'.length (c' - 1), .int .i64 e, .slice OA out.length OC] 51 (0, 0)) ∧ w'.heap[W.heap.size + 1]? = some (.cells #[.int .i64 left.f0, .string left.f1, .int .i64 left.f2, .slice RA r.length RC] 40 (0, 0))) (ds := [10]) #[false, false, false, false, false, false, false, false, false, false, false] (by kernel_rfl) rfl rfl ⟨blk_drew HN2.out.rd, blk_drew HN2.out.b5⟩ (fun hHeld => ?_)
              have HN3 := Aside0.mk (HN2.out.below (below_drew1 (Below.refl _ _)))
              have HT3 := Aside0.mk (blk_drew HT.out)
              have x7 : w3.heap.size < (World.drew (w3.alloc (.cells #[.int .i64 4, .string ts, .int .i64 ta] 38 (0, 0)))).heap.size := by simp
              generalize (World.drew _) = w5 at hHeld HN3 HT3 x7 ⊢
              clear HN2 HT x0 x1 x3 x4 HN HA
              refine pure_ (i := 0) (N := some 42) (v := ?_) (a' := ?_) #[true, false, false, false, false, false, false, false, false, false, false] rfl rfl (by kernel_rfl) (fun _ _ _ h => h) (Or.inl ⟨by rfl, ?_⟩) ?_ ?_
              rotate_left
              · intro w'
                first | (go_simp; done) | (go_simp; with_reducible rfl)
              rotate_left
              · simp only [Act.put, List.setIfInBounds_toArray, List.set_cons_zero, List.set_cons_succ]
                rfl
              refine pure_ (i := 1) (N := some 43) (v := ?_) (a' := ?_) #[true, true, false, false, false, false, false, false, false, false, false] rfl rfl (by kernel_rfl) (fun _ _ _ h => h) (Or.inl ⟨by rfl, ?_⟩) ?_ ?_
              rotate_left
              · intro w'
                first | (go_simp; done) | (go_simp; with_reducible rfl)
              rotate_left
              · simp only [Act.put, List.setIfInBounds_toArray, List.set_cons_zero, List.set_cons_succ]
                rfl
              refine pure_ (i := 2) (N := some 44) (v := ?_) (a' := ?_) #[true, true, true, false, false, false, false, false, false, false, false] rfl rfl (by kernel_rfl) (fun _ _ _ h => h) (Or.inl ⟨by rfl, ?_⟩) ?_ ?_
              rotate_left
              · intro w'
                first | (go_simp; done) | (go_simp; with_reducible rfl)
              rotate_left
              · simp only [Act.put, List.setIfInBounds_toArray, List.set_cons_zero, List.set_cons_succ]
                rfl
              refine pure_ (i := 3) (N := some 45) (v := ?_) (a' := ?_) #[true, true, true, true, false, false, false, false, false, false, false] rfl rfl (by kernel_rfl) (fun _ _ _ h => h) (Or.inl ⟨by rfl, ?_⟩) ?_ ?_
              rotate_left
              · intro w'
                first | (go_simp; done) | (go_simp; with_reducible rfl)
              rotate_left
              · simp only [Act.put, List.setIfInBounds_toArray, List.set_cons_zero, List.set_cons_succ]
                rfl
              refine take_ (i := 4) (N := some 46) (v := ?_) (a' := ?_) #[true, true, true, true, true, false, false, false, false, false, false] rfl rfl (by kernel_rfl) (fun _ _ _ h => h) (Or.inl ⟨by rfl, ?_⟩) hHeld ?_ ?_
              rotate_left
              · rintro w' ⟨s0, s1⟩
                have e0 : w'.cell? ⟨g, 2, none⟩ = some (.slice OA out.length OC) := (blk_cell s0 2).trans rfl
                first | (go_simp; done) | (go_simp; with_reducible rfl)
              rotate_left
              · simp only [Act.put, List.setIfInBounds_toArray, List.set_cons_zero, List.set_cons_succ]
                rfl
              refine take_ (i := 5) (N := some 47) (v := ?_) (a' := ?_) #[true, true, true, true, true, true, false, false, false, false, false] rfl rfl (by kernel_rfl) (fun _ _ _ h => h) (Or.inl ⟨by rfl, ?_⟩) hHeld ?_ ?_
              rotate_left
              · rintro w' ⟨s0, s1⟩
                have e0 : w'.cell? ⟨W.heap.size + 1, 0, none⟩ = some (.int .i64 left.f0) := (blk_cell s1 0).trans rfl
                have e1 : w'.cell? ⟨W.heap.size + 1, 1, none⟩ = some (.string left.f1) := (blk_cell s1 1).trans rfl
                have e2 : w'.cell? ⟨W.heap.size + 1, 2, none⟩ = some (.int .i64 left.f2) := (blk_cell s1 2).trans rfl
                have e3 : w'.cell? ⟨W.heap.size + 1, 3, none⟩ = some (.slice RA r.length RC) := (blk_cell s1 3).trans rfl
                first | (go_simp; done) | (go_simp; with_reducible rfl)
              rotate_left
              · simp only [Act.put, List.setIfInBounds_toArray, List.set_cons_zero, List.set_cons_succ]
                rfl
              refine one_ (i := 6) (N := some 48) #[true, true, true, true, true, true, true, false, false, false, false] rfl rfl (by kernel_rfl) (by decide) (fun K hK => ?_)
              refine event_step (v := .slice (some ⟨w5.heap.size, 0, none⟩) 1 1) (w1 := w5.alloc (.cells [.int .i64 left.f0, .string left.f1, .int .i64 left.f2, .slice RA r.length RC].toArray 40)) (by rfl) ?hr ?_
              case hr => first | (go_simp; done) | (go_simp; rfl)
              refine hK.out _ _ ⟨blk_alloc hHeld.1 _, blk_alloc hHeld.2 _⟩ (fun hHeld2 => ?_)
              clear hK K
              refine one_ (i := 7) (N := some 49) #[true, true, true, true, true, true, true, true, false, false, false] rfl rfl (by kernel_rfl) (by decide) (fun K hK => ?_)
              refine Kd.R_append_step k40 (w0 := w5) w0.heap.size (by rfl) (.tmp 46) (.tmp 48) 25 40 _ 56 rfl Try.underlying25 info40 rfl (by decide) (by omega) (.slice OA out.length OC) out (⟨left, r⟩ : S40) [.int .i64 left.f0, .string left.f1, .int .i64 left.f2, .slice RA r.length RC] (fun _ => True) (fun k => some k ≠ (Value.slice OA out.length OC).ownBlock) rfl ?aX ?aP (fun _ hk => ⟨trivial, hk⟩) (fun _ _ => trivial) ?aO (Below.refl _ _) ?aS ?aL ?_
              case aX => simp [Act.eval, Act.put]
              case aP => exact k40_mkM _ _ _ (⟨left, r⟩ : S40) (Kd.R_lower (Kd.R_reok rfl HN3.out.R (fun k hk he => (HN3.out.O.1 k he.symm).2 hk.symm)) (Nat.le_trans hg (Nat.le_of_lt ll)))
              case aO => exact Kd.R_mono HN3.out.O (fun _ _ => trivial)
              case aS => have := HN3.out.size; omega
              case aL => omega
              intro v1 w6 ho6 hb6 hg6 hat6
              refine hK.out _ _ ⟨blk_grown hHeld.1 hg6 (Kd.R_ne HN3.out.O HN3.out.rd (by decide)), blk_grown hHeld.2 hg6 (Kd.R_away HN3.out.O (fun _ hk => hk.1))⟩ (fun hHeld3 => ?_)
              clear hK K
              refine pure_ (i := 8) (N := some 50) (v := ?_) (a' := ?_) #[true, true, true, true, true, true, true, true, true, false, false] rfl rfl (by kernel_rfl) (fun _ _ _ h => h) (Or.inl ⟨by rfl, ?_⟩) ?_ ?_
              rotate_left
              · intro w'
                first | (go_simp; done) | (go_simp; with_reducible rfl)
              rotate_left
              · simp only [Act.put, List.setIfInBounds_toArray, List.set_cons_zero, List.set_cons_succ]
                rfl
              refine pure_ (i := 9) (N := some 51) (v := ?_) (a' := ?_) #[true, true, true, true, true, true, true, true, true, true, false] rfl rfl (by kernel_rfl) (fun _ _ _ h => h) (Or.inl ⟨by rfl, ?_⟩) ?_ ?_
              rotate_left
              · intro w'
                first | (go_simp; done) | (go_simp; with_reducible rfl)
              rotate_left
              · simp only [Act.put, List.setIfInBounds_toArray, List.set_cons_zero, List.set_cons_succ]
                rfl
              obtain ⟨V6, C6, hv6⟩ := Kd.R_slice ho6
              subst hv6
              refine last_ (i := 10) (N := none) #[true, true, true, true, true, true, true, true, true, true, true] rfl rfl (by kernel_rfl) (by decide) (fun K hK => ?_)
              have e0 : w6.cell? ⟨g, 2, none⟩ = some (.slice OA out.length OC) := (blk_cell hHeld3.1 2).trans rfl
              have e1 := blk_frozen hHeld3.1 2
              refine skip_ (w1 := w6.setCell ⟨g, 2, none⟩ (.slice V6 (out ++ [(⟨left, r⟩ : S40)]).length C6)) (by rfl) rfl ?_ ?_
              · first | (go_simp; done) | (go_simp; rfl)
              refine hK.out _ _ ?_
              clear hK K e0 e1
              refine done_ (by kernel_rfl) ?_
              have HE := Aside0.mk (AltAt.ends ll hg HN3.out ho6 hg6)
              have HT6 := Aside0.mk (blk_far (blk_grown HT3.out hg6 (Kd.R_ne HN3.out.O HT3.out (by decide))) (g := w3.heap.size) (p := ⟨g, 2, none⟩) (fun hh => by have := congrArg id hh; simp at this; omega) (Value.slice V6 (out ++ [(⟨left, r⟩ : S40)]).length C6))
              generalize (World.setCell w6 _ _) = w7 at HE HT6 ⊢
              have z0 : w7.cell? ⟨w3.heap.size, 0, none⟩ = some (.int .i64 4) := (blk_cell HT6.out 0).trans rfl
              go_wp2
              subst ho
              exact bodyPost_ret (results_tmp rfl _ _ _) rfl ⟨rfl, HE.out.1, HE.out.2⟩
            · have hc : 60 ≤ out.length ∨ 8 < r.length := by omega
              have ho := HG2.out
              rw [if_pos hc] at ho
              subst ho
              exact ⟨rfl, rfl, (HN.out.alloc _).B, (HN.out.alloc _).kept' (Below.refl _ _)⟩
          · have hmem : ((⟨5, ts, ta⟩ : Tok)).f0 ∈ ([1, 2, 4, 5] : List Int) := by simp
            go_wp2_with (first
              | (go_at_call 22; refine (next_ok _ g A' c' e _ (⟨5, ts, ta⟩ : Tok) l' (some ⟨wr.heap.size, 0, none⟩) 4 [1, 2, 4, 5] (blk_alloc HA.out.rd _) (Kd.C_below HA.out.C (below_alloc HA.out.B _)) HA.out.lc (C_lit wr _ [1, 2, 4, 5] (by decide)) (by decide) (by decide) hmem).mono ?_; rintro e' w3 ⟨rfl, hb3⟩; have HN := Aside0.mk (AltAt.next ll hg (HA.out.alloc _) hb3); clear hb3; have x0 : w3.cell? ⟨W.heap.size + 1, 3, none⟩ = some (.slice RA r.length RC) := (blk_cell HN.out.b5 3).trans rfl; have x1 := blk_frozen HN.out.b5 3; have x2 := blk_lt HN.out.b5; have x3 : w3.cell? ⟨g, 2, none⟩ = some (.slice OA out.length OC) := (blk_cell HN.out.rd 2).trans rfl; have x4 : w3.cell? ⟨W.heap.size, 2, none⟩ = some (.int .i64 left.f2) := (blk_cell HN.out.b3 2).trans rfl; have x6 := Nat.lt_of_succ_lt x2; have x5 := Nat.lt_trans ll x6))
            · have hc : 60 ≤ out.length ∨ 8 < r.length := by omega
              have ho := HG2.out
              rw [if_pos hc] at ho
              subst ho
              exact ⟨rfl, rfl, (HN.out.alloc _).B, (HN.out.alloc _).kept' (Below.refl _ _)⟩
            · have hc : ¬ (60 ≤ out.length ∨ 8 < r.length) := by omega
              have ho := HG2.out
              rw [if_neg hc] at ho
              have HN2 := Aside0.mk (HN.out.alloc (.cells #[.int .i64 5, .string ts, .int .i64 ta] 38 (0, 0)))
              have HT := Aside0.mk (blk_new w3 (.cells #[.int .i64 5, .string ts, .int .i64 ta] 38 (0, 0)))
              refine start_ (n := 11) (S := fun w' : World => w'.heap[g]? = some (.cells #[.slice (if c' = 1 then A' else Option.map (fun x => x.add 3) A') l'.length (c' - 1), .int .i64 e, .slice OA out.length OC] 51 (0, 0)) ∧ w'.heap[W.heap.size + 1]? = some (.cells #[.int .i64 left.f0, .string left.f1, .int .i64 left.f2, .slice RA r.length RC] 40 (0, 0))) (ds := [10]) #[false, false, false, false, false, false, false, false, false, false, false] (by kernel_rfl) rfl rfl ⟨blk_drew HN2.out.rd, blk_drew HN2.out.b5⟩ (fun hHeld => ?_)
              have HN3 := Aside0.mk (HN2.out.below (below_drew1 (Below.refl _ _)))
              have HT3 := Aside0.mk (blk_drew HT.out)
              have x7 : w3.heap.size < (World.drew (w3.alloc (.cells #[.int .i64 5, .string ts, .int .i64 ta] 38 (0, 0)))).heap.size := by simp
              generalize (World.drew _) = w5 at hHeld HN3 HT3 x7 ⊢
              clear HN2 HT x0 x1 x3 x4 HN HA
              refine pure_ (i := 0) (N := some 42) (v := ?_) (a' := ?_) #[true, false, false, false, false, false, false, false, false, false, false] rfl rfl (by kernel_rfl) (fun _ _ _ h => h) (Or.inl ⟨by rfl, ?_⟩) ?_ ?_
              rotate_left
              · intro w'
                first | (go_simp; done) | (go_simp; with_reducible rfl)
              rotate_left
              · simp only [Act.put, List.setIfInBounds_toArray, List.set_cons_zero, List.set_cons_succ]
                rfl
              refine pure_ (i := 1) (N := some 43) (v := ?_) (a' := ?_) #[true, true, false, false, false, false, false, false, false, false, false] rfl rfl (by kernel_rfl) (fun _ _ _ h => h) (Or.inl ⟨by rfl, ?_⟩) ?_ ?_
              rotate_left
              · intro w'
                first | (go_simp; done) | (go_simp; with_reducible rfl)
              rotate_left
              · simp only [Act.put, List.setIfInBounds_toArray, List.set_cons_zero, List.set_cons_succ]
                rfl
              refine pure_ (i := 2) (N := some 44) (v := ?_) (a' := ?_) #[true, true, true, false, false, false, false, false, false, false, false] rfl rfl (by kernel_rfl) (fun _ _ _ h => h) (Or.inl ⟨by rfl, ?_⟩) ?_ ?_
              rotate_left
              · intro w'
                first | (go_simp; done) | (go_simp; with_reducible rfl)
              rotate_left
              · simp only [Act.put, List.setIfInBounds_toArray, List.set_cons_zero, List.set_cons_succ]
                rfl
              refine pure_ (i := 3) (N := some 45) (v := ?_) (a' := ?_) #[true, true, true, true, false, false, false, false, false, false, false] rfl rfl (by kernel_rfl) (fun _ _ _ h => h) (Or.inl ⟨by rfl, ?_⟩) ?_ ?_
              rotate_left
              · intro w'
                first | (go_simp; done) | (go_simp; with_reducible rfl)
              rotate_left
              · simp only [Act.put, List.setIfInBounds_toArray, List.set_cons_zero, List.set_cons_succ]
                rfl
              refine take_ (i := 4) (N := some 46) (v := ?_) (a' := ?_) #[true, true, true, true, true, false, false, false, false, false, false] rfl rfl (by kernel_rfl) (fun _ _ _ h => h) (Or.inl ⟨by rfl, ?_⟩) hHeld ?_ ?_
              rotate_left
              · rintro w' ⟨s0, s1⟩
                have e0 : w'.cell? ⟨g, 2, none⟩ = some (.slice OA out.length OC) := (blk_cell s0 2).trans rfl
                first | (go_simp; done) | (go_simp; with_reducible rfl)
              rotate_left
              · simp only [Act.put, List.setIfInBounds_toArray, List.set_cons_zero, List.set_cons_succ]
                rfl
              refine take_ (i := 5) (N := some 47) (v := ?_) (a' := ?_) #[true, true, true, true, true, true, false, false, false, false, false] rfl rfl (by kernel_rfl) (fun _ _ _ h => h) (Or.inl ⟨by rfl, ?_⟩) hHeld ?_ ?_
              rotate_left
              · rintro w' ⟨s0, s1⟩
                have e0 : w'.cell? ⟨W.heap.size + 1, 0, none⟩ = some (.int .i64 left.f0) := (blk_cell s1 0).trans rfl
                have e1 : w'.cell? ⟨W.heap.size + 1, 1, none⟩ = some (.string left.f1) := (blk_cell s1 1).trans rfl
                have e2 : w'.cell? ⟨W.heap.size + 1, 2, none⟩ = some (.int .i64 left.f2) := (blk_cell s1 2).trans rfl
                have e3 : w'.cell? ⟨W.heap.size + 1, 3, none⟩ = some (.slice RA r.length RC) := (blk_cell s1 3).trans rfl
                first | (go_simp; done) | (go_simp; with_reducible rfl)
              rotate_left
              · simp only [Act.put, List.setIfInBounds_toArray, List.set_cons_zero, List.set_cons_succ]
                rfl
              refine one_ (i := 6) (N := some 48) #[true, true, true, true, true, true, true, false, false, false, false] rfl rfl (by kernel_rfl) (by decide) (fun K hK => ?_)
              refine event_step (v := .slice (some ⟨w5.heap.size, 0, none⟩) 1 1) (w1 := w5.alloc (.cells [.int .i64 left.f0, .string left.f1, .int .i64 left.f2, .slice RA r.length RC].toArray 40)) (by rfl) ?hr ?_
              case hr => first | (go_simp; done) | (go_simp; rfl)
              refine hK.out _ _ ⟨blk_alloc hHeld.1 _, blk_alloc hHeld.2 _⟩ (fun hHeld2 => ?_)
              clear hK K
              refine one_ (i := 7) (N := some 49) #[true, true, true, true, true, true, true, true, false, false, false] rfl rfl (by kernel_rfl) (by decide) (fun K hK => ?_)
              refine Kd.R_append_step k40 (w0 := w5) w0.heap.size (by rfl) (.tmp 46) (.tmp 48) 25 40 _ 56 rfl Try.underlying25 info40 rfl (by decide) (by omega) (.slice OA out.length OC) out (⟨left, r⟩ : S40) [.int .i64 left.f0, .string left.f1, .int .i64 left.f2, .slice RA r.length RC] (fun _ => True) (fun k => some k ≠ (Value.slice OA out.length OC).ownBlock) rfl ?aX ?aP (fun _ hk => ⟨trivial, hk⟩) (fun _ _ => trivial) ?aO (Below.refl _ _) ?aS ?aL ?_
              case aX => simp [Act.eval, Act.put]
              case aP => exact k40_mkM _ _ _ (⟨left, r⟩ : S40) (Kd.R_lower (Kd.R_reok rfl HN3.out.R (fun k hk he => (HN3.out.O.1 k he.symm).2 hk.symm)) (Nat.le_trans hg (Nat.le_of_lt ll)))
              case aO => exact Kd.R_mono HN3.out.O (fun _ _ => trivial)
              case aS => have := HN3.out.size; omega
              case aL => omega
              intro v1 w6 ho6 hb6 hg6 hat6
              refine hK.out _ _ ⟨blk_grown hHeld.1 hg6 (Kd.R_ne HN3.out.O HN3.out.rd (by decide)), blk_grown hHeld.2 hg6 (Kd.R_away HN3.out.O (fun _ hk => hk.1))⟩ (fun hHeld3 => ?_)
              clear hK K
              refine pure_ (i := 8) (N := some 50) (v := ?_) (a' := ?_) #[true, true, true, true, true, true, true, true, true, false, false] rfl rfl (by kernel_rfl) (fun _ _ _ h => h) (Or.inl ⟨by rfl, ?_⟩) ?_ ?_
              rotate_left
              · intro w'
                first | (go_simp; done) | (go_simp; with_reducible rfl)
              rotate_left
              · simp only [Act.put, List.setIfInBounds_toArray, List.set_cons_zero, List.set_cons_succ]
                rfl
              refine pure_ (i := 9) (N := some 51) (v := ?_) (a' := ?_) #[true, true, true, true, true, true, true, true, true, true, false] rfl rfl (by kernel_rfl) (fun _ _ _ h => h) (Or.inl ⟨by rfl, ?_⟩) ?_ ?_
              rotate_left
              · intro w'
                first | (go_simp; done) | (go_simp; with_reducible rfl)
              rotate_left
              · simp only [Act.put, List.setIfInBounds_toArray, List.set_cons_zero, List.set_cons_succ]
                rfl
              obtain ⟨V6, C6, hv6⟩ := Kd.R_slice ho6
              subst hv6
              refine last_ (i := 10) (N := none) #[true, true, true, true, true, true, true, true, true, true, true] rfl rfl (by kernel_rfl) (by decide) (fun K hK => ?_)
              have e0 : w6.cell? ⟨g, 2, none⟩ = some (.slice OA out.length OC) := (blk_cell hHeld3.1 2).trans rfl
              have e1 := blk_frozen hHeld3.1 2
              refine skip_ (w1 := w6.setCell ⟨g, 2, none⟩ (.slice V6 (out ++ [(⟨left, r⟩ : S40)]).length C6)) (by rfl) rfl ?_ ?_
              · first | (go_simp; done) | (go_simp; rfl)
              refine hK.out _ _ ?_
              clear hK K e0 e1
              refine done_ (by kernel_rfl) ?_
              have HE := Aside0.mk (AltAt.ends ll hg HN3.out ho6 hg6)
              have HT6 := Aside0.mk (blk_far (blk_grown HT3.out hg6 (Kd.R_ne HN3.out.O HT3.out (by decide))) (g := w3.heap.size) (p := ⟨g, 2, none⟩) (fun hh => by have := congrArg id hh; simp at this; omega) (Value.slice V6 (out ++ [(⟨left, r⟩ : S40)]).length C6))
              generalize (World.setCell w6 _ _) = w7 at HE HT6 ⊢
              have z0 : w7.cell? ⟨w3.heap.size, 0, none⟩ = some (.int .i64 5) := (blk_cell HT6.out 0).trans rfl
              go_wp2
              subst ho
              exact bodyPost_ret (results_tmp rfl _ _ _) rfl ⟨rfl, HE.out.1, HE.out.2⟩
            · have hc : 60 ≤ out.length ∨ 8 < r.length := by omega
              have ho := HG2.out
              rw [if_pos hc] at ho
              subst ho
              exact ⟨rfl, rfl, (HN.out.alloc _).B, (HN.out.alloc _).kept' (Below.refl _ _)⟩
        · have hmem : t.f0 ∉ ([1, 2, 4, 5] : List Int) := by simp; omega
          have ho := HG.out
          simp only [altGo, if_neg h12, if_neg h45] at ho
          subst ho
          go_wp2_with (first | (go_at_call 22; refine (next_bad _ g A' c' e ov' t l' (some ⟨wr.heap.size, 0, none⟩) 4 [1, 2, 4, 5] (blk_alloc HA.out.rd _) (Kd.C_below HA.out.C (below_alloc HA.out.B _)) (C_lit wr _ [1, 2, 4, 5] (by decide)) (by decide) (by decide) hmem).mono ?_; rintro e' w3 ⟨rfl, hb3⟩))
          exact ⟨rfl, rfl, below_step (below_alloc HA.out.B _) hb3, HA.out.kept' (below_step (below_alloc (Below.refl _ _) _) hb3)⟩
end Go.Proofs.Ytilldpmlcgikdaa.P
