/- stack: Edge, Pop; Edges and Pops of a stack of one's own. -/
import Derived.Test.YtdkgbkmaeeicoaaVSNode
set_option linter.unusedVariables false
set_option linter.unusedSimpArgs false
-- YtdkgbkmaeeicoaaVC
namespace Go.Proofs.Ytdkgbkmaeeicoaa.V
open Go Go.RowKit
def hasB (l : List Nd) (n : Int) : Bool := decide (0 ≤ n) && decide (n < (l.length : Int))
theorem hasr_v (l : List Nd) (n : Int) : VCalls Try.prog 23 [.el [.sl 2 ((l.map rowN).map fun r => r.map N.toD)], .val (.int .i64 n)] [] 0 (Gives (.val (.bool (hasB l n)))) := by
  have := has_v (l.map encNd) n
  rw [List.length_map] at this
  rw [dn_rows]
  exact this
theorem hasB_some {l : List Nd} {n : Int} (h : hasB l n = true) : ∃ (k : Nat) (u : Nd), n = (k : Int) ∧ l[k]? = some u ∧ k < l.length := has_some (by rw [List.length_map]; exact h)
theorem hasB_none {l : List Nd} {n : Int} (h : hasB l n = false) : edgesOf l n = [] ∧ popsOf l n = [] := has_none (by rw [List.length_map]; exact h)
def atNd (l : List Nd) (n : Int) (f : Nd → Nd) : List Nd := match l[n.toNat]? with
  | some u => l.set n.toNat (f u)
  | none => l
def withE (x : Int × Int) (u : Nd) : Nd := ⟨u.sym, u.pos, addP u.e x, u.p⟩
def withP (x : Int) (u : Nd) : Nd := ⟨u.sym, u.pos, u.e, addZ u.p x⟩
def edgeB (l : List Nd) (n st ab : Int) : Bool := hasB l n && (hasB l ab && !((edgesOf l n).any (eqP (st, ab))))
def addEdge (l : List Nd) (n st ab : Int) : List Nd := if hasB l n && hasB l ab then atNd l n (withE (st, ab)) else l
def popB (l : List Nd) (n x : Int) : Bool := hasB l n && !((popsOf l n).any fun y => decide (x = y))
def addPop (l : List Nd) (n x : Int) : List Nd := if hasB l n then atNd l n (withP x) else l
theorem atNd_some {l : List Nd} {k : Nat} {u : Nd} (h : l[k]? = some u) (f : Nd → Nd) : atNd l (k : Int) f = l.set k (f u) := by
  unfold atNd; rw [Int.toNat_natCast, h]
theorem set_same {α : Type} {l : List α} {k : Nat} {u : α} (h : l[k]? = some u) : l.set k u = l := by
  apply List.ext_getElem?
  intro i
  rw [List.getElem?_set]
  split
  · rename_i hi; subst hi
    rw [if_pos (List.getElem?_eq_some_iff.1 h).1, h]
  · rfl
theorem known_set {l : List Nd} {k : Nat} {u u' : Nd} (h : l[k]? = some u) (h1 : u'.sym = u.sym) (h2 : u'.pos = u.pos) : knownE (l.set k u') = knownE l := by
  unfold knownE knownF
  apply List.ext_getElem?
  intro i
  rw [List.getElem?_map, List.getElem?_map, List.getElem?_zipIdx, List.getElem?_zipIdx, List.getElem?_set]
  by_cases hk : k = i
  · subst hk
    have hu := (List.getElem?_eq_some_iff.1 h).2
    have hlt := (List.getElem?_eq_some_iff.1 h).1
    simp [h, hlt, hu, knownAt, h1, h2]
  · simp [hk]
set_option maxHeartbeats 4000000 in
theorem edge_v (l : List Nd) (n st ab : Int) (hl : ∀ u ∈ l, u.e.length ≤ 1000000) : VCalls Try.prog 11 [.ptr 0 0, .val (.int .i64 n), .val (.int .i64 st), .val (.int .i64 ab)] (stH l) 3 (Leaves (.val (.bool (edgeB l n st ab))) (stH' (addEdge l n st ab)) 4) := by
  refine VCalls.enterL (n := 42) Try.func11 rfl rfl (by simp) (fun cx hcx => ?_)
  unfold stH stH'
  (repeat (first | ((with_reducible refine VOps.same ?_); (first | (refine VOps.nil ?_; try dsimp only [VThen, VBlock]) | refine VOps.vp (by rfl) (by kernel_rfl) (by rfl) (VPure.move rfl rfl) ?_ | refine VOps.vp (by rfl) (by kernel_rfl) (by rfl) (VPure.assign rfl rfl) ?_)) | refine VCode.seq ?_ | refine VCode.region rfl ?_))
  refine VOps.pure rfl Try.func23 rfl (by kernel_rfl) rfl rfl rfl rfl rfl rfl rfl (hasr_v l n) ?_
  (repeat (first | ((with_reducible refine VOps.same ?_); (first | refine VOps.vp (by rfl) (by kernel_rfl) (by rfl) (VPure.move rfl rfl) ?_ | refine VOps.vp (by rfl) (by kernel_rfl) (by rfl) (VPure.not rfl rfl) ?_))))
  refine VOps.bool (d := 13) rfl (fun h1 => ?_) (fun h1 => ?_)
  · have h1 := bnot_t h1
    have e1 : edgeB l n st ab = false := by unfold edgeB; rw [h1]; rfl
    have e2 : addEdge l n st ab = l := by unfold addEdge; rw [h1]; rfl
    (repeat (first | ((with_reducible refine VOps.same ?_); (first | (refine VOps.nil ?_; try dsimp only [VThen, VBlock]) | refine VOps.vp (by rfl) (by kernel_rfl) (by rfl) (VPure.pick_t rfl rfl rfl) ?_ | refine VOps.passv rfl (by kernel_rfl) rfl ?_))))
    refine VCode.cond_t rfl rfl ?_
    (repeat (first | ((with_reducible refine VOps.same ?_); (first | (refine VOps.nil ?_; try dsimp only [VThen, VBlock]) | refine VOps.vp (by rfl) (by kernel_rfl) (by rfl) (VPure.assign rfl rfl) ?_)) | refine VCode.seq ?_ | refine VCode.region rfl ?_))
    refine VCode.again (id := 1) rfl ?_
    refine VCode.ret ?_
    rw [e1, e2]
    (show Less cx _ _; refine Less.mkx (l := [0, 1, 2, 3]) (st' := ⟨[(8, .val (.bool false))], [(0, .cells 57 [.ref 3, .ref 2]), (3, .nest 61 2 (l.map rowN) none), (2, .map (knownE l))], 4⟩) 3 hcx (Nat.le_of_ble_eq_true rfl) (by decide) ?ss ?hh rfl (by decide) rfl ⟨_, (.tmp rfl .nil), rfl, rfl, rfl⟩; (case ss => repeat (first | exact SubS.nil | refine SubS.cons rfl rfl ?_ | refine SubS.cons (congrArg (fun z => some (V.val (Value.int IntKind.i64 z))) (by omega)) rfl ?_ | refine SubS.cons (congrArg (fun z => some (V.val (Value.bool z))) (by assumption)) rfl ?_)); (case hh => repeat (first | exact SubH.nil | refine SubH.cons rfl rfl rfl ?_)))
  · have h1 := bnot_f h1
    (repeat (first | ((with_reducible refine VOps.same ?_); (first | refine VOps.vp (by rfl) (by kernel_rfl) (by rfl) (VPure.move rfl rfl) ?_))))
    refine VOps.pure rfl Try.func23 rfl (by kernel_rfl) rfl rfl rfl rfl rfl rfl rfl (hasr_v l ab) ?_
    (repeat (first | ((with_reducible refine VOps.same ?_); (first | (refine VOps.nil ?_; try dsimp only [VThen, VBlock]) | refine VOps.vp (by rfl) (by kernel_rfl) (by rfl) (VPure.not rfl rfl) ?_ | refine VOps.vp (by rfl) (by kernel_rfl) (by rfl) (VPure.pick_f rfl rfl rfl) ?_))))
    refine VCode.cond rfl (fun h2 => ?_) (fun h2 => ?_)
    · have h2 := bnot_t h2
      have e1 : edgeB l n st ab = false := by unfold edgeB; rw [h2, Bool.false_and, Bool.and_false]
      have e2 : addEdge l n st ab = l := by unfold addEdge; rw [h2, Bool.and_false]; rfl
      (repeat (first | ((with_reducible refine VOps.same ?_); (first | (refine VOps.nil ?_; try dsimp only [VThen, VBlock]) | refine VOps.vp (by rfl) (by kernel_rfl) (by rfl) (VPure.assign rfl rfl) ?_)) | refine VCode.seq ?_ | refine VCode.region rfl ?_))
      refine VCode.again (id := 1) rfl ?_
      refine VCode.ret ?_
      rw [e1, e2]
      (show Less cx _ _; refine Less.mkx (l := [0, 1, 2, 3]) (st' := ⟨[(8, .val (.bool false))], [(0, .cells 57 [.ref 3, .ref 2]), (3, .nest 61 2 (l.map rowN) none), (2, .map (knownE l))], 4⟩) 3 hcx (Nat.le_of_ble_eq_true rfl) (by decide) ?ss ?hh rfl (by decide) rfl ⟨_, (.tmp rfl .nil), rfl, rfl, rfl⟩; (case ss => repeat (first | exact SubS.nil | refine SubS.cons rfl rfl ?_ | refine SubS.cons (congrArg (fun z => some (V.val (Value.int IntKind.i64 z))) (by omega)) rfl ?_ | refine SubS.cons (congrArg (fun z => some (V.val (Value.bool z))) (by assumption)) rfl ?_)); (case hh => repeat (first | exact SubH.nil | refine SubH.cons rfl rfl rfl ?_)))
    · have h2 := bnot_f h2
      obtain ⟨k, u, rfl, hu, hk⟩ := hasB_some h1
      have e1 : edgeB l k st ab = !(u.e.any (eqP (st, ab))) := by unfold edgeB; rw [h1, h2, (of_some hu).1]; rfl
      have e2 : addEdge l k st ab = l.set k (withE (st, ab) u) := by unfold addEdge; rw [h1, h2, Bool.and_self, if_pos rfl, atNd_some hu]
      (repeat (first | refine VCode.seq ?_ | refine VCode.skip ?_))
      refine VCode.focus (id := 1) k 0 rfl (rows_map (f := rowN) hu rfl) ?_
      refine VCode.thenTo ⟨[(8, .val (.bool (!(u.e.any (eqP (st, ab))))))], [(0, .cells 57 [.ref 3, .ref 2]), (3, .nest 61 2 (l.map rowN) (some (k, 0, 4))), (4, .arr 52 2 ((addP u.e (st, ab)).map encP)), (2, .map (knownE l))], 5⟩ ?_ ?_
      · refine VCode.drawAny [3, 4, 5] (by kernel_rfl) rfl ?_
        refine VAny.pureI (i := 0) rfl rfl (by kernel_rfl) rfl (VPure.move rfl rfl) ?_
        refine VAny.pureI (i := 1) rfl rfl (by kernel_rfl) rfl (VPure.nilCheck_ptr rfl rfl rfl) ?_
        refine VAny.pureI (i := 2) rfl rfl (by kernel_rfl) rfl (VPure.field_ptr rfl rfl rfl) ?_
        refine VAny.loadI (i := 3) rfl rfl (by kernel_rfl) rfl (VLoad.box1 rfl rfl rfl rfl (by rfl) (by decide)) ?_
        refine VAny.pureI (i := 4) rfl rfl (by kernel_rfl) rfl (VPure.move rfl rfl) ?_
        refine VAny.pureI (i := 5) rfl rfl (by kernel_rfl) rfl (VPure.move rfl rfl) ?_
        refine VAny.pureI (i := 6) rfl rfl (by kernel_rfl) rfl (VPure.nilCheck_ptr rfl rfl rfl) ?_
        refine VAny.pureI (i := 7) rfl rfl (by kernel_rfl) rfl (VPure.field_ptr rfl rfl rfl) ?_
        refine VAny.loadI (i := 8) rfl rfl (by kernel_rfl) rfl (VLoad.box1 rfl rfl rfl rfl (by rfl) (by decide)) ?_
        refine VAny.pureI (i := 9) rfl rfl (by kernel_rfl) rfl (VPure.move rfl rfl) ?_
        refine VAny.pureI (i := 10) rfl rfl (by kernel_rfl) rfl (VPure.idx_nest rfl rfl rfl rfl (by omega) (by rw [List.length_map]; omega)) ?_
        refine VAny.pureI (i := 11) rfl rfl (by kernel_rfl) rfl (VPure.field_nest rfl rfl rfl (by rw [List.length_map]; omega)) ?_
        refine VAny.pureI (i := 13) rfl rfl (by kernel_rfl) rfl (VPure.move rfl rfl) ?_
        refine VAny.pureI (i := 14) rfl rfl (by kernel_rfl) rfl (VPure.move rfl rfl) ?_
        refine VAny.pureI (i := 15) rfl rfl (by kernel_rfl) rfl (VPure.buildC rfl (by kernel_rfl) rfl (by rfl)) ?_
        refine VAny.movesI (is := [12]) (by kernel_rfl) (by simp) rfl (all1 ?_)
        · refine VMv.load rfl rfl rfl (VLoad.hole rfl rfl rfl (by rfl) ⟨by rw [List.length_map]; exact hk, by decide⟩ rfl (by decide)) ?_
          refine VAny.movesI (is := [16]) (by kernel_rfl) (by simp) rfl (all1 ?_)
          · (refine VMv.callL (ch := [(0, .arr 52 2 (u.e.map encP))]) [3] rfl rfl Try.func24 rfl rfl rfl rfl rfl rfl ?hh (by decide) rfl rfl rfl (addedE_v u.e (st, ab) (hl u (List.mem_of_getElem? hu))) rfl (by rfl) rfl ?_; (case hh => repeat (first | exact SubH.nil | refine SubH.cons rfl rfl rfl ?_)))
            refine VAny.pureI (i := 17) rfl rfl (by kernel_rfl) rfl (VPure.move rfl rfl) ?_
            refine VAny.pureI (i := 18) rfl rfl (by kernel_rfl) rfl (VPure.extract rfl rfl rfl) ?_
            refine VAny.pureI (i := 19) rfl rfl (by kernel_rfl) rfl (VPure.extract rfl rfl rfl) ?_
            refine VAny.pureI (i := 20) rfl rfl (by kernel_rfl) rfl (VPure.idx_nest rfl rfl rfl rfl (by omega) (by rw [List.length_map]; omega)) ?_
            refine VAny.pureI (i := 21) rfl rfl (by kernel_rfl) rfl (VPure.field_nest rfl rfl rfl (by rw [List.length_map]; omega)) ?_
            refine VAny.movesI (is := [22]) (by kernel_rfl) (by simp) rfl (all1 ?_)
            · refine VMv.store_nest rfl rfl rfl rfl rfl rfl rfl rfl (by rfl) (⟨by rw [List.length_map]; exact hk, by decide⟩) (.inl ⟨_, rfl⟩) ?_
              refine VAny.pureI (i := 23) rfl rfl (by kernel_rfl) rfl (VPure.assign rfl rfl) ?_
              refine VAny.done ?_
              (refine Less.mkx (l := [0, 1, 2, 4, 5]) 3 hcx (by exact Nat.le_of_ble_eq_true rfl) (by decide) ?ss ?hh rfl (by decide) rfl rfl; (case ss => repeat (first | exact SubS.nil | refine SubS.cons rfl rfl ?_ | refine SubS.cons (congrArg (fun z => some (V.val (Value.int IntKind.i64 z))) (by omega)) rfl ?_ | refine SubS.cons (congrArg (fun z => some (V.val (Value.bool z))) (by assumption)) rfl ?_)); (case hh => repeat (first | exact SubH.nil | refine SubH.cons rfl rfl rfl ?_)))
      (repeat (first | ((with_reducible refine VOps.same ?_); (first | (refine VOps.nil ?_; try dsimp only [VThen, VBlock]) | refine VOps.vp (by rfl) (by kernel_rfl) (by rfl) (VPure.move rfl rfl) ?_ | refine VOps.vp (by rfl) (by kernel_rfl) (by rfl) (VPure.assign rfl rfl) ?_)) | refine VCode.seq ?_ | refine VCode.region rfl ?_))
      refine VCode.unfocus (id := 3) rfl rfl ⟨by rw [List.length_map]; exact hk, by decide⟩ (putN_map (u' := withE (st, ab) u) hu rfl) ?_
      refine VCode.ret ?_
      rw [e1, e2, known_set (u' := withE (st, ab) u) hu rfl rfl]
      (show Less cx _ _; refine Less.mkx (l := [0, 1, 2, 5]) (st' := ⟨[(8, .val (.bool (!(u.e.any (eqP (st, ab))))))], [(0, .cells 57 [.ref 3, .ref 2]), (3, .nest 61 2 ((l.set k (withE (st, ab) u)).map rowN) none), (2, .map (knownE l))], 4⟩) 3 hcx (Nat.le_of_ble_eq_true rfl) (by decide) ?ss ?hh rfl (by decide) rfl ⟨_, (.tmp rfl .nil), rfl, rfl, rfl⟩; (case ss => repeat (first | exact SubS.nil | refine SubS.cons rfl rfl ?_ | refine SubS.cons (congrArg (fun z => some (V.val (Value.int IntKind.i64 z))) (by omega)) rfl ?_ | refine SubS.cons (congrArg (fun z => some (V.val (Value.bool z))) (by assumption)) rfl ?_)); (case hh => repeat (first | exact SubH.nil | refine SubH.cons rfl rfl rfl ?_)))
end Go.Proofs.Ytdkgbkmaeeicoaa.V
