/- close: slices.Compact at []int: its array is given up, what is left is data. -/
import Derived.Test.YtbpjlpokmnmmmaaVSort
set_option linter.unusedVariables false
set_option linter.unusedSimpArgs false
namespace Go.Proofs.Ytbpjlpokmnmmmaa.V
open Go Go.RowKit
theorem compact_v (zs : List Nat) (hz : zs.length ≤ 1000000000) : VCalls Try.prog 26 [.ref 0] [(0, .arr 3 1 (zs.map encN))] 1 (Leaves (.sl 1 ((Lib.compact (zs.map fun (k : Nat) => (k : Int))).map encZ)) [] 1) := fun z g w ms h1 h2 h3 => by
  obtain ⟨m0, rfl⟩ : ∃ m0, ms = #[m0] := by
    match ms, h2 with
    | ⟨[a]⟩, _ => exact ⟨a, rfl⟩
  have hgv : gvOf [(0, O.arr 3 1 (zs.map encN))] g 0 = some (g 0) := rfl
  have v0 := h3 0 _ m0 rfl rfl
  obtain rfl : m0 = g 0 := by
    cases v0 with
    | ref _ _ _ _ h => exact h _ hgv
  obtain ⟨_, o', ho', hrep⟩ := h1.obj 0 _ hgv
  obtain rfl := Option.some.inj ho'
  generalize hx : g 0 = v at hrep hgv
  -- what is dropped
  have hdrop : ∀ w', w.heap.size ≤ w'.heap.size → w'.os = w.os → w'.tape = w.tape → w'.output = w.output → (∀ k, k < w.heap.size → (∀ b, blk v = some b → k ≠ b) → w'.heap[k]? = w.heap[k]?) → HRep (cxOf z g [(0, O.arr 3 1 (zs.map encN))] 1 w) g [] 1 w' := by
    intro w' hs os tape out hk
    refine ⟨os, tape, out, hs, fun k hk1 hk2 => hk k hk1 (fun b hb e => hk2 ⟨0, v, hgv, by rw [hb, e]⟩), fun _ _ h => by simp [gvOf, lk] at h, fun _ _ _ _ _ h => by simp [gvOf, lk] at h, fun _ _ _ h => by simp [gvOf, lk] at h, fun _ _ _ h => by simp [gvOf, lk] at h, Nat.le_refl _, fun k hk => ?_⟩
    exact h1.apz k hk
  cases hrep with
  | arr _ _ _ _ cs hown hrow hmost hone hcs =>
    have hcs' : ∀ (i k : Nat), zs[i]? = some k → cs[i]? = some (.int .i64 (k : Int)) := fun i k hk => by
      obtain ⟨m, hm, hd⟩ := hcs i 0 (.val (.int .i64 (k : Int))) (by rw [List.getElem?_map, hk]; rfl)
      cases hd
      simpa using hm
    rw [List.length_map] at hown
    obtain ⟨hlen, hcase⟩ := hown
    rw [Nat.mul_one] at hlen
    rcases hcase with ⟨rfl, hz0⟩ | ⟨gb, cap, cur, rfl, _, hb, hle, hcap, hcur, htake⟩
    · obtain rfl : zs = [] := List.length_eq_zero_iff.1 hz0
      refine Calls.mono (Any.slices_Compact_int_empty Try.lays20 none 0 w) ?_
      rintro e w' ⟨rfl, rfl⟩
      exact ⟨g, [], 1, .ret (.sl 1 []), hdrop _ (Nat.le_refl _) rfl rfl rfl (fun _ _ _ => rfl), .sl _ _ _ (.nil _ _ _), rfl, rfl, rfl⟩
    · have hlt : gb < w.heap.size := (Array.getElem?_eq_some_iff.1 hb).1
      have hcj : ∀ j, j < zs.length → cur[j]? = cs[j]? := fun j hj => by
        rw [← htake, List.getElem?_take, if_pos (by rw [Nat.mul_one]; exact hj), Array.getElem?_toList]
      have hH : «Sort».Holds (Value.int .i64) w gb 0 (zs.map fun (k : Nat) => (k : Int)).toArray := by
        intro j hj
        have hj : j < zs.length := by simpa using hj
        have h5 : cur[j]? = some (.int .i64 (zs[j] : Int)) := by rw [hcj j hj]; exact hcs' j _ (List.getElem?_eq_getElem hj)
        refine ⟨?_, ?_⟩
        · simp [World.cell?, hb, h5, hj]
        · simp [World.frozen?, hb]
      have H := Any.slices_Compact_int Try.lays20 gb 0 cap (zs.map fun (k : Nat) => (k : Int)) w hH (by rw [List.length_map]; omega) (by rw [List.length_map]; exact hle)
      rw [List.length_map] at H
      refine Calls.mono H ?_
      rintro e w' ⟨rfl, q, rfl⟩
      generalize hS : Lib.compact (zs.map fun (k : Nat) => (k : Int)) = S
      have hSl : S.length ≤ zs.length := by
        rw [← hS]
        unfold Lib.compact Lib.compactUpTo
        rw [List.length_map]
        refine Nat.le_trans (List.length_filter_le _ _) ?_
        simp
      generalize hd : (S ++ List.replicate (zs.length - S.length) (0 : Int)).toArray = d
      have hds : d.size = zs.length := by rw [← hd]; simp; omega
      have hdj : ∀ j (h : j < S.length), d[j]? = some S[j] := fun j h => by
        rw [← hd]
        simp [List.getElem?_append_left h]
      generalize hw1 : «Sort».putRow (Value.int .i64) («Sort».ahead w q) gb 0 d = w1
      refine ⟨g, [], 1, .ret (.sl 1 (S.map encZ)), hdrop w1 (by rw [← hw1]; simp [«Sort».putRow, «Sort».mapBlock, «Sort».ahead]) (by rw [← hw1]; rfl) (by rw [← hw1]; rfl) (by rw [← hw1]; rfl) (fun k hk hne => ?_), ?_, rfl, rfl, rfl⟩
      · have := hne gb rfl
        rw [← hw1]
        simp [«Sort».putRow, «Sort».mapBlock, «Sort».ahead, Array.getElem?_modify, Ne.symm this]
      · have hcell : ∀ j, j < S.length → Rd z [] g w1 (Addr.add ⟨gb, 0, none⟩ (j * 1 + 0)) (.int .i64 (S.getD j 0)) := fun j hj => by
          rw [show Addr.add ⟨gb, 0, none⟩ (j * 1 + 0) = ⟨gb, 0 + j, none⟩ by rw [Addr.add_lit]; simp]
          refine ⟨fun hzz => (h1.apz gb hzz).2 ⟨0, _, hgv, rfl⟩, fun ⟨_, _, h, _⟩ => by simp [gvOf, lk] at h, ?_⟩
          have := «Sort».cell?_putRow (Value.int .i64) («Sort».ahead w q) gb 0 (zs.map fun (k : Nat) => (k : Int)).toArray d hH (by rw [hds]; simp) j (by rw [hds]; omega)
          rw [hw1] at this
          have e : d[j]! = S.getD j 0 := by
            rw [getElem!_pos d j (by rw [hds]; omega)]
            have := hdj j hj
            rw [Array.getElem?_eq_getElem (by rw [hds]; omega)] at this
            rw [Option.some.inj this, List.getD_eq_getElem?_getD, List.getElem?_eq_getElem hj]; rfl
          rw [e] at this
          exact this
        have hrow1 : ∀ (i j : Nat) (e : D), ((S.map encZ)[i]?).bind (·[j]?) = some e → i < S.length ∧ j = 0 ∧ e = .val (.int .i64 (S.getD i 0)) := fun i j e he => by
          rw [List.getElem?_map] at he
          cases hi : S[i]? with
          | none => rw [hi] at he; cases he
          | some k =>
            rw [hi] at he
            match j, he with
            | 0, he =>
              refine ⟨(List.getElem?_eq_some_iff.1 hi).1, rfl, ?_⟩
              rw [List.getD_eq_getElem?_getD, hi]
              exact (Option.some.inj he).symm
            | j + 1, he => cases he
        have hD : DRep (Rd z [] g w1) (.sl 1 (S.map encZ)) (.slice (some ⟨gb, 0, none⟩) (S.map encZ).length cap) := by
          refine .sl 1 _ _ _ (fun i _ => .int .i64 (S.getD i 0)) (by rw [List.length_map]; omega) (by rw [List.length_map]; simp only [most]; omega) (fun row hr => ?_) (fun i j e he => ?_) (fun i j e he => ?_)
          · obtain ⟨k, _, rfl⟩ := List.mem_map.1 hr
            rfl
          · obtain ⟨h1', rfl, rfl⟩ := hrow1 i j e he
            exact hcell i h1'
          · obtain ⟨h1', rfl, rfl⟩ := hrow1 i j e he
            exact .val _ rfl
        rw [List.length_map] at hD
        exact .sl _ _ _ hD
end Go.Proofs.Ytbpjlpokmnmmmaa.V
