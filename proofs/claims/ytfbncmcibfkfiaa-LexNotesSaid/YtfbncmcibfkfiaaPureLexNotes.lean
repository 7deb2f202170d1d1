/- LexNotes answers true at all texts, places and pieces of any size: what is laid ahead of a token changes none but its place. Conditions: none. -/
import Derived.Test.YtfbncmcibfkfiaaPx7
import Derived.Test.YtfbncmcibfkfiaaLexAfter
import Derived.Test.YtfbncmcibfkfiaaLexMore
set_option linter.unusedVariables false
set_option linter.unusedSimpArgs false
namespace Go.Proofs.Ytfbncmcibfkfiaa.Pure
open Go.RowKit Go.Proofs.Ytfbncmcibfkfiaa.P Go.Proofs.YtfbncmcibfkfiaaW.PrintWords Go.Proofs.YtfbncmcibfkfiaaW.PrintLast Go.Proofs.Ytfbncmcibfkfiaa.Base

theorem bytesOf_append (x y : ByteArray) : bytesOf (x ++ y) = bytesOf x ++ bytesOf y := by
  unfold bytesOf
  rw [ByteArray.data_append, Array.toList_append, List.map_append]
theorem closed_nil : LexSpec.Closed [] := ⟨fun v => by simp, .inl rfl⟩
theorem closed_append {x y : List Int} (hx : LexSpec.Closed x) (hy : LexSpec.Closed y) : LexSpec.Closed (x ++ y) := by
  refine ⟨fun v => by rw [List.append_assoc, hx.1, hy.1, List.length_append]; omega, ?_⟩
  cases x with
  | nil => simpa using hy.2
  | cons c cs =>
    right
    rcases hx.2 with h | h
    · cases h
    · simpa using h
def pieces : List ByteArray := [(⟨#[32]⟩ : ByteArray), (⟨#[9]⟩ : ByteArray), (⟨#[10]⟩ : ByteArray), (⟨#[35, 32, 97, 32, 39, 98, 39, 32, 59, 10]⟩ : ByteArray)]
theorem piece_ok (j : Int) (h0 : 0 ≤ j) (h4 : j < 4) : LexSpec.Closed (bytesOf (rdOf ByteArray.empty pieces j)) ∧ (rdOf ByteArray.empty pieces j).size ≤ 10 := by
  have : j = 0 ∨ j = 1 ∨ j = 2 ∨ j = 3 := by omega
  rcases this with rfl | rfl | rfl | rfl
  · exact ⟨⟨fun v => by show LexSpec.skip false (32 :: v) = 1 + LexSpec.skip false v; simp [LexSpec.skip]; omega, .inr rfl⟩, by decide⟩
  · exact ⟨⟨fun v => by show LexSpec.skip false (9 :: v) = 1 + LexSpec.skip false v; simp [LexSpec.skip]; omega, .inr rfl⟩, by decide⟩
  · exact ⟨⟨fun v => by show LexSpec.skip false (10 :: v) = 1 + LexSpec.skip false v; simp [LexSpec.skip]; omega, .inr rfl⟩, by decide⟩
  · exact ⟨⟨fun v => by show LexSpec.skip false (35 :: 32 :: 97 :: 32 :: 39 :: 98 :: 39 :: 32 :: 59 :: 10 :: v) = 10 + LexSpec.skip false v; simp [LexSpec.skip]; omega, .inr rfl⟩, by decide⟩
/-- Two lists of tokens, as the statement compares them. -/
theorem compare_loop (l l' : List S36) (g : Nat) (x : ByteArray) (hl : l.length ≤ 4000) (he : l'.length = l.length) (hx : x.size ≤ 4000) (hp : ∀ t ∈ l, 0 ≤ t.f2 ∧ t.f2 ≤ 4000)
    (h : ∀ i, i < l.length → (rd_T36 l' (i : Int)).f0 = (rd_T36 l (i : Int)).f0 ∧ (rd_T36 l' (i : Int)).f1 = (rd_T36 l (i : Int)).f1 ∧ (rd_T36 l' (i : Int)).f2 = (rd_T36 l (i : Int)).f2 + (if g ≤ i then (x.size : Int) else 0)) (d : Nat) :
    ∀ i, i ≤ l.length → l.length - i = d → Evt fun k => topiaristlaw01_LexNotes.l1 k l (g : Int) x l' (i : Int) := by
  induction d with
  | zero =>
    intro i hi hd
    refine Evt.now fun k => ?_
    simp only [topiaristlaw01_LexNotes.l1]
    rw [if_neg (by omega), wakes_true]
    rfl
  | succ d ih =>
    intro i hi hd
    have hlt : i < l.length := by omega
    have hm : rd_T36 l (i : Int) ∈ l := by
      unfold rd_T36
      rw [Int.toNat_natCast, List.getD_eq_getElem?_getD, List.getElem?_eq_getElem hlt]
      exact List.getElem_mem _
    have hpp := hp _ hm
    obtain ⟨h0, h1, h2⟩ := h i hlt
    refine Evt.step (fun k => ?_) (ih (i + 1) (by omega) (by omega))
    simp only [topiaristlaw01_LexNotes.l1]
    rw [if_pos (by omega), if_pos (by omega), wrap_nat i (by omega), h0, h1, h2]
    by_cases hg : g ≤ i
    · have hw : wrap64 ((rd_T36 l (i : Int)).f2 + (x.size : Int)) = (rd_T36 l (i : Int)).f2 + (x.size : Int) := by unfold wrap64; omega
      rw [if_pos (show (i : Int) ≥ (g : Int) by omega), if_pos (show (i : Int) < (l'.length : Int) by omega), hw, if_pos hg, if_neg (by simp)]
    · rw [if_neg (show ¬ (i : Int) ≥ (g : Int) by omega), if_pos (show (i : Int) < (l'.length : Int) by omega), if_neg hg, Int.add_zero, if_neg (by simp)]
theorem toks_at (s : ByteArray) (k i : Nat) (l : List (Int × ByteArray × Int)) (h : LexSpec.toks s k i = .ok l) : ∀ q ∈ l, 0 ≤ q.2.2 ∧ q.2.2 ≤ s.size := by
  induction k generalizing i l with
  | zero => simp only [LexSpec.toks, Except.ok.injEq] at h; subst h; simp
  | succ k ih =>
    simp only [LexSpec.toks] at h
    split at h
    · rename_i hlt
      cases ht : LexSpec.token ((bytesOf s).drop i) with
      | none => simp only [ht] at h; cases h
      | some q =>
        obtain ⟨kd, a, b, n⟩ := q
        simp only [ht] at h
        cases hs : LexSpec.toks s k (i + n + LexSpec.skip false ((bytesOf s).drop (i + n))) with
        | error e => rw [hs] at h; cases h
        | ok l' =>
          rw [hs] at h
          simp only [Except.ok.injEq] at h
          subst h
          intro q hq
          rcases List.mem_cons.1 hq with rfl | hq
          · show 0 ≤ (i : Int) ∧ (i : Int) ≤ s.size; omega
          · exact ih _ _ hs q hq
    · simp only [Except.ok.injEq] at h; subst h; simp
/-- A text's tokens, as lists, and back. -/
def asT (q : Int × ByteArray × Int) : LexSpec.Tk := (q.1, bytesOf q.2.1, q.2.2.toNat)
theorem asT_eq (q : Int × ByteArray × Int) (h : 0 ≤ q.2.2) (q' : Int × ByteArray × Int) (h' : 0 ≤ q'.2.2) (d : Nat) (e : asT q' = LexSpec.shift d (asT q)) : q'.1 = q.1 ∧ q'.2.1 = q.2.1 ∧ q'.2.2 = q.2.2 + d := by
  simp only [asT, LexSpec.shift, Prod.mk.injEq] at e
  exact ⟨e.1, bytesOf_inj e.2.1, by omega⟩
theorem tokens_ok (s : ByteArray) (L : List (Int × ByteArray × Int)) (h : LexSpec.tokens s = .ok L) : LexSpec.all 0 (bytesOf s) = .ok (L.map asT) := by
  rw [← LexSpec.tokens_all, h]; rfl
theorem tokens_of (s : ByteArray) (M : List LexSpec.Tk) (h : LexSpec.all 0 (bytesOf s) = .ok M) : ∃ L, LexSpec.tokens s = .ok L ∧ L.map asT = M := by
  rw [← LexSpec.tokens_all] at h
  cases ht : LexSpec.tokens s with
  | error e => rw [ht] at h; cases h
  | ok L => rw [ht] at h; simp only [LexSpec.asL, Except.ok.injEq] at h; exact ⟨L, rfl, h⟩
theorem notes_end (s x : ByteArray) (hs : s.size ≤ 1000) (hx : LexSpec.Closed (bytesOf x)) (hxs : x.size ≤ 1000) (L : List (Int × ByteArray × Int)) (hL : LexSpec.tokens s = .ok L) (g : Nat) (hg : g < L.length) (l2 : List Int) (i : Int) (hi : ¬ i < (l2.length : Int)) :
    Evt fun k => topiaristlaw01_LexNotes.l0 k s l2 (L.map tok) (g : Int) (rd_T36 (L.map tok) (g : Int)).f2 x i := by
  have hat := toks_at s _ _ _ hL
  have hcnt := toks_count s _ _ _ hL
  have hgl : L[g]? = some L[g] := List.getElem?_eq_getElem hg
  have hcut : (rd_T36 (L.map tok) (g : Int)).f2 = L[g].2.2 := by
    unfold rd_T36
    rw [Int.toNat_natCast, List.getD_eq_getElem?_getD, List.getElem?_map, hgl]
    rfl
  have hc0 := hat _ (List.getElem_mem hg)
  rw [hcut]
  generalize hcc : L[g].2.2 = cut at *
  have hins := LexSpec.insert_all (bytesOf x) hx g 0 (bytesOf s) _ (asT L[g]) (tokens_ok s L hL) (by rw [List.getElem?_map, hgl]; rfl)
  have hct : (asT L[g]).2.2 - 0 = cut.toNat := by simp [asT, hcc]
  rw [hct] at hins
  have hb : bytesOf ((s.extract 0 cut.toNat ++ x) ++ s.extract cut.toNat s.size) = (bytesOf s).take cut.toNat ++ (bytesOf x ++ (bytesOf s).drop cut.toNat) := by
    rw [bytesOf_append, bytesOf_append, bytesOf_head, bytesOf_tail, List.append_assoc]
  have hz1 := size_extract s 0 cut.toNat (by omega)
  have hz2 := size_tail s cut.toNat
  have hz : ((s.extract 0 cut.toNat ++ x) ++ s.extract cut.toNat s.size).size = s.size + x.size := by
    rw [ByteArray.size_append, ByteArray.size_append, hz1, hz2]; omega
  have hz3 : (s.extract 0 cut.toNat ++ x).size = cut.toNat + x.size := by rw [ByteArray.size_append, hz1]; omega
  obtain ⟨L', hL', hmap⟩ := tokens_of ((s.extract 0 cut.toNat ++ x) ++ s.extract cut.toNat s.size) _ (by rw [hb]; exact hins)
  have hat' := toks_at _ _ _ _ hL'
  have hlen : L'.length = L.length := by
    have := congrArg List.length hmap
    simp at this
    omega
  have hcmp := compare_loop (L.map tok) (L'.map tok) g x (by rw [List.length_map]; omega) (by rw [List.length_map, List.length_map, hlen]) (by omega) (fun t ht => by
      obtain ⟨q, hq, rfl⟩ := List.mem_map.1 ht
      have := hat q hq
      show 0 ≤ q.2.2 ∧ q.2.2 ≤ 4000
      omega) (fun j hj => by
      rw [List.length_map] at hj
      have e1 : L[j]? = some L[j] := List.getElem?_eq_getElem hj
      have e2 : L'[j]? = some (L'[j]'(by omega)) := List.getElem?_eq_getElem (by omega)
      have r1 : rd_T36 (L.map tok) (j : Int) = tok L[j] := by
        unfold rd_T36
        rw [Int.toNat_natCast, List.getD_eq_getElem?_getD, List.getElem?_map, e1]
        rfl
      have r2 : rd_T36 (L'.map tok) (j : Int) = tok (L'[j]'(by omega)) := by
        unfold rd_T36
        rw [Int.toNat_natCast, List.getD_eq_getElem?_getD, List.getElem?_map, e2]
        rfl
      rw [r1, r2]
      have hq := hat _ (List.getElem_mem hj)
      have hq' := hat' _ (List.getElem_mem (show j < L'.length by omega))
      have hget := congrArg (fun z => z[j]?) hmap
      simp only [List.getElem?_map, e2, Option.map_some] at hget
      have hlt : ((L.map asT).take g).length = g := by rw [List.length_take, List.length_map]; omega
      by_cases hgj : g ≤ j
      · rw [List.getElem?_append_right (by omega), List.getElem?_map, hlt, List.getElem?_drop, show g + (j - g) = j from by omega, List.getElem?_map, e1] at hget
        simp only [Option.map_some, Option.some.injEq] at hget
        obtain ⟨h1, h2, h3⟩ := asT_eq _ hq.1 _ hq'.1 _ hget
        rw [if_pos hgj, ← bytesOf_length x]
        exact ⟨h1, h2, h3⟩
      · rw [List.getElem?_append_left (by omega), List.getElem?_take_of_lt (by omega), List.getElem?_map, e1] at hget
        simp only [Option.map_some, Option.some.injEq] at hget
        obtain ⟨h1, h2, h3⟩ := asT_eq _ hq.1 _ hq'.1 0 (by rw [hget]; simp [LexSpec.shift])
        rw [if_neg hgj]
        exact ⟨h1, h2, h3⟩) _ 0 (by omega) rfl
  have hf : lex_Tokens.f ((s.extract 0 cut.toNat ++ x) ++ s.extract cut.toNat s.size) = some (L'.map tok, 0, 0) := by
    unfold lex_Tokens.f
    rw [if_neg (by rw [hz]; omega), hL']
  refine Evt.step (g := fun k => topiaristlaw01_LexNotes.j4 k (L.map tok) (g : Int) x (L'.map tok) false) (fun k => ?_) (Evt.step (fun k => ?_) hcmp)
  · simp only [topiaristlaw01_LexNotes.l0]
    rw [if_neg hi, if_pos hc0.1, if_pos (show cut ≤ (s.size : Int) from hc0.2)]
    have g1 : (s.extract 0 cut.toNat).size + x.size ≤ 9223372036854775807 := by rw [hz1]; omega
    have g2 : (s.extract 0 cut.toNat ++ x).size + (s.extract cut.toNat s.size).size ≤ 9223372036854775807 := by rw [hz3, hz2]; omega
    rw [if_pos g1, if_pos g2, hf]
    simp only [Option.bind_some, if_true]
    rw [show (((L'.map tok).length : Int) != ((L.map tok).length : Int)) = false from by simp [hlen]]
  · simp only [topiaristlaw01_LexNotes.j4]
    rw [if_neg (by simp)]
    rfl
theorem pieces_loop (s : ByteArray) (hs : s.size ≤ 1000) (L : List (Int × ByteArray × Int)) (hL : LexSpec.tokens s = .ok L) (g : Nat) (hg : g < L.length) (l2 : List Int) (h2 : l2.length ≤ 100) (hw : ∀ y ∈ l2, 0 ≤ y ∧ y ≤ 255) (d : Nat) :
    ∀ i (x : ByteArray), i ≤ l2.length → l2.length - i = d → LexSpec.Closed (bytesOf x) → x.size ≤ 10 * i → Evt fun k => topiaristlaw01_LexNotes.l0 k s l2 (L.map tok) (g : Int) (rd_T36 (L.map tok) (g : Int)).f2 x (i : Int) := by
  induction d with
  | zero =>
    intro i x hi hd hx hz
    exact notes_end s x hs hx (by omega) L hL g hg l2 (i : Int) (by omega)
  | succ d ih =>
    intro i x hi hd hx hz
    have hlt : i < l2.length := by omega
    have hm : rd l2 (i : Int) ∈ l2 := by
      unfold rd
      rw [Int.toNat_natCast, List.getD_eq_getElem?_getD, List.getElem?_eq_getElem hlt]
      exact List.getElem_mem _
    have hy := hw _ hm
    have hj : 0 ≤ Int.tmod (rd l2 (i : Int)) 4 ∧ Int.tmod (rd l2 (i : Int)) 4 < 4 := by
      rw [Int.tmod_eq_emod_of_nonneg hy.1]; omega
    generalize hjj : Int.tmod (rd l2 (i : Int)) 4 = j at *
    have hp := piece_ok j hj.1 hj.2
    refine Evt.step (fun k => ?_) (ih (i + 1) (x ++ rdOf ByteArray.empty pieces j) (by omega) (by omega) (by rw [bytesOf_append]; exact closed_append hx hp.1) (by rw [ByteArray.size_append]; omega))
    simp only [topiaristlaw01_LexNotes.l0]
    rw [if_pos (by omega)]
    simp only [Option.bind_some]
    have hsz : x.size + (rdOf ByteArray.empty pieces j).size ≤ 9223372036854775807 := by omega
    have hlen : j < (pieces.length : Int) := hj.2
    rw [if_pos (by omega), hjj, if_pos hj.1]
    show (if j < (pieces.length : Int) then (if x.size + (rdOf ByteArray.empty pieces j).size ≤ 9223372036854775807 then _ else _) else _) = _
    rw [if_pos hlen, if_pos hsz, wrap_nat i (by omega)]
    rfl
theorem LexNotes : topiaristlaw01_LexNotes.Pure := by
  intro s a l2 hs ha h1 h2 hw
  have ha' : 0 ≤ a ∧ a ≤ 255 := by
    have m0 : IntKind.u8.min = 0 := rfl
    have m1 : IntKind.u8.max = 255 := rfl
    simp [Lit.wf, m0, m1] at ha
    omega
  have hw' : ∀ y ∈ l2, 0 ≤ y ∧ y ≤ 255 := by
    intro y hy
    have := hw y hy
    have m0 : IntKind.u8.min = 0 := rfl
    have m1 : IntKind.u8.max = 255 := rfl
    simp [Lit.wf, m0, m1] at this
    omega
  refine Evt.get ?_
  have hj : Evt fun k => topiaristlaw01_LexNotes.j0 k s a l2 true := Evt.now fun k => by
    simp only [topiaristlaw01_LexNotes.j0]
    rw [if_pos trivial, wakes_true]
    rfl
  unfold topiaristlaw01_LexNotes.f
  by_cases g1 : (s.size : Int) > 1000
  · simp only [if_pos g1]; exact hj
  · simp only [if_neg g1]
    by_cases g2 : (l2.length : Int) > 100
    · rw [decide_eq_true g2]; exact hj
    · rw [decide_eq_false g2]
      have hj1 : ∀ r, Evt fun k => topiaristlaw01_LexNotes.j1 k s a l2 r true := fun r => Evt.now fun k => by
        simp only [topiaristlaw01_LexNotes.j1]
        rw [if_pos trivial, wakes_true]
        rfl
      cases hL : LexSpec.tokens s with
      | error e =>
        refine Evt.step (fun k => ?_) (hj1 [])
        simp only [topiaristlaw01_LexNotes.j0]
        unfold lex_Tokens.f
        rw [if_neg (by simp), if_neg (by omega), hL]
        simp only [Option.bind_some]
        rw [if_neg (by decide)]
      | ok L =>
        have hcnt := toks_count s _ _ _ hL
        have hat := toks_at s _ _ _ hL
        have hf : lex_Tokens.f s = some (L.map tok, 0, 0) := by
          unfold lex_Tokens.f
          rw [if_neg (by omega), hL]
        have hstep : ∀ k, topiaristlaw01_LexNotes.j0 (k + 1) s a l2 false = topiaristlaw01_LexNotes.j1 k s a l2 (L.map tok) (((L.map tok).length : Int) == 0) := by
          intro k
          simp only [topiaristlaw01_LexNotes.j0]
          rw [if_neg (by simp), hf]
          simp only [Option.bind_some, if_true]
        refine Evt.step hstep ?_
        by_cases h0 : L.length = 0
        · rw [show (((L.map tok).length : Int) == 0) = true from by simp [h0]]
          exact hj1 _
        · rw [show (((L.map tok).length : Int) == 0) = false from by rw [List.length_map, beq_eq_false_iff_ne]; omega]
          have hwa : wrap64 a = a := by unfold wrap64; omega
          have hmod : Int.tmod a (L.length : Int) = ((a.toNat % L.length : Nat) : Int) := by
            rw [Int.tmod_eq_emod_of_nonneg ha'.1, Int.natCast_emod, Int.toNat_of_nonneg ha'.1]
          have hglt : a.toNat % L.length < L.length := Nat.mod_lt _ (by omega)
          generalize hgg : a.toNat % L.length = g at *
          have hH := pieces_loop s (by omega) L hL g hglt l2 (by omega) hw' _ 0 ByteArray.empty (by omega) rfl (by exact closed_nil) (by simp)
          have hm : rd_T36 (L.map tok) (g : Int) ∈ L.map tok := by
            unfold rd_T36
            rw [Int.toNat_natCast, List.getD_eq_getElem?_getD, List.getElem?_eq_getElem (show g < (L.map tok).length by rw [List.length_map]; omega)]
            exact List.getElem_mem _
          obtain ⟨q, hq, hqe⟩ := List.mem_map.1 hm
          have hqa := hat q hq
          have hcut : 0 ≤ (rd_T36 (L.map tok) (g : Int)).f2 ∧ (rd_T36 (L.map tok) (g : Int)).f2 ≤ s.size := by rw [← hqe]; exact hqa
          refine Evt.step (g := fun k => topiaristlaw01_LexNotes.j2 k s l2 (L.map tok) (g : Int) (rd_T36 (L.map tok) (g : Int)).f2 false) (fun k => ?_) (Evt.step (fun k => ?_) hH)
          · simp only [topiaristlaw01_LexNotes.j1]
            rw [if_neg (by simp), hwa, List.length_map, hmod, if_neg (by omega), if_pos (by omega), if_pos (by omega), if_neg (show ¬ (rd_T36 (L.map tok) (g : Int)).f2 < 0 by omega)]
            rw [show decide ((rd_T36 (L.map tok) (g : Int)).f2 > (s.size : Int)) = false from decide_eq_false (by omega)]
          · simp only [topiaristlaw01_LexNotes.j2]
            rw [if_neg (by simp)]
            rfl
end Go.Proofs.Ytfbncmcibfkfiaa.Pure
