/- stack: New, has, Node; Edges and Pops of what is lent. -/
import Derived.Test.YtdkgbkmaeeicoaaVSAdd
set_option linter.unusedVariables false
set_option linter.unusedSimpArgs false
-- YtdkgbkmaeeicoaaVC
namespace Go.Proofs.Ytdkgbkmaeeicoaa.V
open Go Go.RowKit
/-- A node: what it is of, its edges, its pops. -/
structure Nd where
  sym : Int
  pos : Int
  e : List (Int × Int)
  p : List Int
def rowN (u : Nd) : List N := [.own 52 2 (u.e.map encP), .own 3 1 (u.p.map encZ)]
def encNd (u : Nd) : List D := [.sl 2 (u.e.map encP), .sl 1 (u.p.map encZ)]
def knownAt (u : Nd) (i : Nat) : List D × List D := ([.val (.int .i64 u.sym), .val (.int .i64 u.pos)], encZ (i : Int))
def knownF (l : List Nd) (i : Nat) : List (List D × List D) := (l.zipIdx i).map fun p => knownAt p.1 p.2
def knownE (l : List Nd) : List (List D × List D) := knownF l 0
def stH (l : List Nd) : Heap := [(0, .cells 57 [.ref 1, .ref 2]), (1, .nest 61 2 (l.map rowN) none), (2, .map (knownE l))]
def stH' (l : List Nd) : Heap := [(0, .cells 57 [.ref 3, .ref 2]), (3, .nest 61 2 (l.map rowN) none), (2, .map (knownE l))]
theorem dn_rows (l : List Nd) : ((l.map rowN).map fun r => r.map N.toD) = l.map encNd := by
  rw [List.map_map]; rfl
def isNd (sym pos : Int) (u : Nd) : Bool := decide (sym = u.sym) && (decide (pos = u.pos) && true)
def nodeAt (l : List Nd) (sym pos : Int) : Nat := (l.findIdx? (isNd sym pos)).getD l.length
def thereB (l : List Nd) (sym pos : Int) : Bool := (l.findIdx? (isNd sym pos)).isSome
def addNode (l : List Nd) (sym pos : Int) : List Nd := if thereB l sym pos then l else l ++ [Nd.mk sym pos [] []]
theorem known_len (l : List Nd) (i : Nat) : ∀ e ∈ knownF l i, e.1.length = 2 := by
  intro e he
  obtain ⟨p, _, rfl⟩ := List.mem_map.1 he
  rfl
theorem known_find (sym pos : Int) (l : List Nd) : ∀ i : Nat, findE (fun r => eqRow [.int .i64, .int .i64] [.val (.int .i64 sym), .val (.int .i64 pos)] (r.map D.toV)) (knownF l i) = some ((l.findIdx? (isNd sym pos)).map fun j => encZ ((i + j : Nat) : Int)) := by
  induction l with
  | nil => intro i; rfl
  | cons u l ih =>
    intro i
    have e : knownF (u :: l) i = knownAt u i :: knownF l (i + 1) := by simp [knownF, List.zipIdx_cons]
    rw [e]
    have h1 : eqRow [.int .i64, .int .i64] [.val (.int .i64 sym), .val (.int .i64 pos)] ((knownAt u i).1.map D.toV) = some (isNd sym pos u) := rfl
    simp only [findE, h1, List.findIdx?_cons]
    cases hb : isNd sym pos u with
    | true => rfl
    | false =>
      simp only [ih (i + 1)]
      simp only [Bool.false_eq_true, if_false, Option.map_map]
      congr 1
      cases l.findIdx? (isNd sym pos) with
      | none => rfl
      | some j => simp [Nat.add_comm, Nat.add_left_comm]
theorem known_snoc (l : List Nd) (u : Nd) : knownE l ++ [knownAt u l.length] = knownE (l ++ [u]) := by
  unfold knownE knownF
  rw [List.zipIdx_append, List.map_append]
  simp
theorem new_v : VCalls Try.prog 7 [] [] 0 (Leaves (.ptr 0 0) (stH []) 3) := by
  refine VCalls.enterL (n := 4) Try.func7 rfl rfl (by simp) (fun cx hcx => ?_)
  (repeat (first | ((with_reducible refine VOps.same ?_); (first | (refine VOps.nil ?_; try dsimp only [VThen, VBlock]) | refine VOps.vp (by rfl) (by kernel_rfl) (by rfl) (VPure.assign rfl rfl) ?_ | refine VOps.vp (by rfl) (by kernel_rfl) (by rfl) (VPure.buildC rfl (by kernel_rfl) rfl (by rfl)) ?_ | refine VOps.box rfl rfl (by kernel_rfl) rfl rfl rfl rfl ?_ | refine VOps.makeMap rfl rfl (by kernel_rfl) rfl ?_)) | refine VCode.seq ?_ | refine VCode.region rfl ?_))
  refine VCode.nilCell (id := 1) 0 61 2 rfl rfl rfl rfl ?_
  refine VCode.turn (id := 2) (rows := []) (fun _ => []) rfl (fun _ h => by cases h) rfl ?_
  refine VCode.ret ?_
  (show Less cx _ _; refine Less.mkx (l := [1, 3, 0]) (st' := ⟨[(0, .ptr 0 0)], stH [], 3⟩) 0 hcx (Nat.le_of_ble_eq_true rfl) (by decide) ?ss ?hh rfl (by decide) rfl ⟨_, (.tmp rfl .nil), rfl, rfl, rfl⟩; (case ss => repeat (first | exact SubS.nil | refine SubS.cons rfl rfl ?_ | refine SubS.cons (congrArg (fun z => some (V.val (Value.int IntKind.i64 z))) (by omega)) rfl ?_ | refine SubS.cons (congrArg (fun z => some (V.val (Value.bool z))) (by assumption)) rfl ?_)); (case hh => repeat (first | exact SubH.nil | refine SubH.cons rfl rfl rfl ?_)))
set_option maxHeartbeats 1000000 in
theorem has_v (xs : List (List D)) (n : Int) : VCalls Try.prog 23 [.el [.sl 2 xs], .val (.int .i64 n)] [] 0 (Gives (.val (.bool (decide (0 ≤ n) && decide (n < xs.length))))) := by
  refine VCalls.enter (n := 20) Try.func23 rfl rfl (by simp) (fun cx hcx => ?_)
  (repeat (first | ((with_reducible refine VOps.same ?_); (first | (refine VOps.nil ?_; try dsimp only [VThen, VBlock]) | refine VOps.vp (by rfl) (by kernel_rfl) (by rfl) (VPure.move rfl rfl) ?_ | refine VOps.vp (by rfl) (by kernel_rfl) (by rfl) (VPure.assign rfl rfl) ?_ | refine VOps.vp (by rfl) (by kernel_rfl) (by rfl) (VPure.geq rfl rfl rfl) ?_ | refine VOps.vp (by rfl) (by kernel_rfl) (by rfl) (VPure.pick_t rfl rfl rfl) ?_ | refine VOps.vp (by rfl) (by kernel_rfl) (by rfl) (VPure.nnil_el rfl TI.und' rfl rfl) ?_)) | refine VCode.seq ?_ | refine VCode.region rfl ?_))
  refine VOps.bool (d := 11) rfl (fun h => ?_) (fun h => ?_)
  · (repeat (first | ((with_reducible refine VOps.same ?_); (first | (refine VOps.nil ?_; try dsimp only [VThen, VBlock]) | refine VOps.vp (by rfl) (by kernel_rfl) (by rfl) (VPure.move rfl rfl) ?_ | refine VOps.vp (by rfl) (by kernel_rfl) (by rfl) (VPure.assign rfl rfl) ?_ | refine VOps.vp (by rfl) (by kernel_rfl) (by rfl) (VPure.len_sl TI.und' rfl rfl) ?_ | refine VOps.vp (by rfl) (by kernel_rfl) (by rfl) (VPure.field_el rfl rfl) ?_ | refine VOps.vv (by rfl) (by kernel_rfl) (by rfl) (VLoad.el1 rfl rfl rfl (by rfl)) ?_ | refine VOps.vp (by rfl) (by kernel_rfl) (by rfl) (VPure.lss rfl rfl rfl) ?_ | refine VOps.vp (by rfl) (by kernel_rfl) (by rfl) (VPure.pick_t rfl rfl rfl) ?_ | refine VOps.vp (by rfl) (by kernel_rfl) (by rfl) (VPure.nilCheck_el rfl rfl) ?_))))
    refine VCode.give hcx rfl rfl rfl rfl rfl ?_
    rw [show decide (0 ≤ n) = true from h]; rfl
  · (repeat (first | ((with_reducible refine VOps.same ?_); (first | (refine VOps.nil ?_; try dsimp only [VThen, VBlock]) | refine VOps.vp (by rfl) (by kernel_rfl) (by rfl) (VPure.assign rfl rfl) ?_ | refine VOps.vp (by rfl) (by kernel_rfl) (by rfl) (VPure.pick_f rfl rfl rfl) ?_ | refine VOps.passv rfl (by kernel_rfl) rfl ?_))))
    refine VCode.give hcx rfl rfl rfl rfl rfl ?_
    rw [show decide (0 ≤ n) = false from h]; rfl
theorem hasn_v (n : Int) : VCalls Try.prog 23 [.val (.pointer none), .val (.int .i64 n)] [] 0 (Gives (.val (.bool false))) := by
  refine VCalls.enter (n := 20) Try.func23 rfl rfl (by simp) (fun cx hcx => ?_)
  (repeat (first | ((with_reducible refine VOps.same ?_); (first | (refine VOps.nil ?_; try dsimp only [VThen, VBlock]) | refine VOps.vp (by rfl) (by kernel_rfl) (by rfl) (VPure.move rfl rfl) ?_ | refine VOps.vp (by rfl) (by kernel_rfl) (by rfl) (VPure.assign rfl rfl) ?_ | refine VOps.vp (by rfl) (by kernel_rfl) (by rfl) (VPure.pick_f rfl rfl rfl) ?_ | refine VOps.passv rfl (by kernel_rfl) rfl ?_ | refine VOps.vp (by rfl) (by kernel_rfl) (by rfl) (VPure.nnil_nil rfl TI.und' rfl rfl) ?_)) | refine VCode.seq ?_ | refine VCode.region rfl ?_))
  refine VCode.give hcx rfl rfl rfl rfl rfl ?_
  rfl
theorem bnot_t {b : Bool} (h : (!b) = true) : b = false := by cases b <;> first | rfl | cases h
theorem bnot_f {b : Bool} (h : (!b) = false) : b = true := by cases b <;> first | rfl | cases h
def edgesOf (l : List Nd) (n : Int) : List (Int × Int) := if 0 ≤ n then (match l[n.toNat]? with | some u => u.e | none => []) else []
def popsOf (l : List Nd) (n : Int) : List Int := if 0 ≤ n then (match l[n.toNat]? with | some u => u.p | none => []) else []
theorem has_some {l : List Nd} {n : Int} (h : (decide (0 ≤ n) && decide (n < ((l.map encNd).length : Int))) = true) : ∃ (k : Nat) (u : Nd), n = (k : Int) ∧ l[k]? = some u ∧ k < l.length := by
  simp only [Bool.and_eq_true, decide_eq_true_eq, List.length_map] at h
  have hk : n.toNat < l.length := by omega
  exact ⟨n.toNat, l[n.toNat], by omega, List.getElem?_eq_getElem hk, hk⟩
theorem has_none {l : List Nd} {n : Int} (h : (decide (0 ≤ n) && decide (n < ((l.map encNd).length : Int))) = false) : edgesOf l n = [] ∧ popsOf l n = [] := by
  unfold edgesOf popsOf
  by_cases hn : 0 ≤ n
  · rw [if_pos hn, if_pos hn]
    have hge : l.length ≤ n.toNat := by
      simp only [decide_eq_true hn, Bool.true_and, decide_eq_false_iff_not, List.length_map] at h
      omega
    rw [List.getElem?_eq_none hge]; exact ⟨rfl, rfl⟩
  · rw [if_neg hn, if_neg hn]; exact ⟨rfl, rfl⟩
theorem of_some {l : List Nd} {k : Nat} {u : Nd} (h : l[k]? = some u) : edgesOf l (k : Int) = u.e ∧ popsOf l (k : Int) = u.p := by
  unfold edgesOf popsOf
  rw [if_pos (by omega), if_pos (by omega), Int.toNat_natCast, h]
  exact ⟨rfl, rfl⟩
set_option maxHeartbeats 1000000 in
theorem edges_v (l : List Nd) (n : Int) (hl : ∀ u ∈ l, u.e.length ≤ 1000000) : VCalls Try.prog 20 [.el [.sl 2 (l.map encNd)], .val (.int .i64 n)] [] 0 (Gives (.sl 2 ((edgesOf l n).map encP))) := by
  refine VCalls.enterD (n := 18) Try.func20 rfl rfl (by simp) rfl (fun cx hcx => ?_)
  (repeat (first | ((with_reducible refine VOps.same ?_); (first | (refine VOps.nil ?_; try dsimp only [VThen, VBlock]) | refine VOps.vp (by rfl) (by kernel_rfl) (by rfl) (VPure.move rfl rfl) ?_ | refine VOps.vp (by rfl) (by kernel_rfl) (by rfl) (VPure.assign rfl rfl) ?_)) | refine VCode.seq ?_ | refine VCode.region rfl ?_))
  refine VOps.pure rfl Try.func23 rfl (by kernel_rfl) rfl rfl rfl rfl rfl rfl rfl (has_v (l.map encNd) n) ?_
  (repeat (first | ((with_reducible refine VOps.same ?_); (first | (refine VOps.nil ?_; try dsimp only [VThen, VBlock]) | refine VOps.vp (by rfl) (by kernel_rfl) (by rfl) (VPure.not rfl rfl) ?_))))
  refine VCode.cond rfl (fun h => ?_) (fun h => ?_)
  · have e := (has_none (l := l) (n := n) (bnot_t h)).1
    (repeat (first | ((with_reducible refine VOps.same ?_); (first | (refine VOps.nil ?_; try dsimp only [VThen, VBlock]) | refine VOps.vp (by rfl) (by kernel_rfl) (by rfl) (VPure.assign rfl rfl) ?_)) | refine VCode.seq ?_ | refine VCode.region rfl ?_))
    refine VCode.nilS 4 2 rfl ?_
    refine VCode.retD rfl rfl (.tmp rfl .nil) ?_
    rw [e]; rfl
  · obtain ⟨k, u, rfl, hu, hk⟩ := has_some (l := l) (n := n) (bnot_f h)
    have e := (of_some hu).1
    (repeat (first | ((with_reducible refine VOps.same ?_); (first | refine VOps.vp (by rfl) (by kernel_rfl) (by rfl) (VPure.move rfl rfl) ?_ | refine VOps.vp (by rfl) (by kernel_rfl) (by rfl) (VPure.idx_map rfl rfl rfl (by assumption)) ?_ | refine VOps.vp (by rfl) (by kernel_rfl) (by rfl) (VPure.field_el rfl rfl) ?_ | refine VOps.vv (by rfl) (by kernel_rfl) (by rfl) (VLoad.el1 rfl rfl rfl (by rfl)) ?_ | refine VOps.vp (by rfl) (by kernel_rfl) (by rfl) (VPure.nilCheck_el rfl rfl) ?_)) | refine VCode.seq ?_ | refine VCode.region rfl ?_ | refine VCode.skip ?_))
    refine VOps.gives rfl Try.func28 rfl (by kernel_rfl) rfl rfl rfl rfl rfl rfl rfl rfl (cloneE_v u.e (hl u (List.mem_of_getElem? hu))) ?_
    (repeat (first | ((with_reducible refine VOps.same ?_); (first | (refine VOps.nil ?_; try dsimp only [VThen, VBlock]) | refine VOps.vp (by rfl) (by kernel_rfl) (by rfl) (VPure.assign rfl rfl) ?_))))
    refine VCode.retD rfl rfl (.tmp rfl .nil) ?_
    rw [e]; rfl
set_option maxHeartbeats 1000000 in
theorem pops_v (l : List Nd) (n : Int) (hl : ∀ u ∈ l, u.p.length ≤ 1000000) : VCalls Try.prog 21 [.el [.sl 2 (l.map encNd)], .val (.int .i64 n)] [] 0 (Gives (.sl 1 ((popsOf l n).map encZ))) := by
  refine VCalls.enterD (n := 18) Try.func21 rfl rfl (by simp) rfl (fun cx hcx => ?_)
  (repeat (first | ((with_reducible refine VOps.same ?_); (first | (refine VOps.nil ?_; try dsimp only [VThen, VBlock]) | refine VOps.vp (by rfl) (by kernel_rfl) (by rfl) (VPure.move rfl rfl) ?_ | refine VOps.vp (by rfl) (by kernel_rfl) (by rfl) (VPure.assign rfl rfl) ?_)) | refine VCode.seq ?_ | refine VCode.region rfl ?_))
  refine VOps.pure rfl Try.func23 rfl (by kernel_rfl) rfl rfl rfl rfl rfl rfl rfl (has_v (l.map encNd) n) ?_
  (repeat (first | ((with_reducible refine VOps.same ?_); (first | (refine VOps.nil ?_; try dsimp only [VThen, VBlock]) | refine VOps.vp (by rfl) (by kernel_rfl) (by rfl) (VPure.not rfl rfl) ?_))))
  refine VCode.cond rfl (fun h => ?_) (fun h => ?_)
  · have e := (has_none (l := l) (n := n) (bnot_t h)).2
    (repeat (first | ((with_reducible refine VOps.same ?_); (first | (refine VOps.nil ?_; try dsimp only [VThen, VBlock]) | refine VOps.vp (by rfl) (by kernel_rfl) (by rfl) (VPure.assign rfl rfl) ?_)) | refine VCode.seq ?_ | refine VCode.region rfl ?_))
    refine VCode.nilS 4 1 rfl ?_
    refine VCode.retD rfl rfl (.tmp rfl .nil) ?_
    rw [e]; rfl
  · obtain ⟨k, u, rfl, hu, hk⟩ := has_some (l := l) (n := n) (bnot_f h)
    have e := (of_some hu).2
    (repeat (first | ((with_reducible refine VOps.same ?_); (first | refine VOps.vp (by rfl) (by kernel_rfl) (by rfl) (VPure.move rfl rfl) ?_ | refine VOps.vp (by rfl) (by kernel_rfl) (by rfl) (VPure.idx_map rfl rfl rfl (by assumption)) ?_ | refine VOps.vp (by rfl) (by kernel_rfl) (by rfl) (VPure.field_el rfl rfl) ?_ | refine VOps.vv (by rfl) (by kernel_rfl) (by rfl) (VLoad.el1 rfl rfl rfl (by rfl)) ?_ | refine VOps.vp (by rfl) (by kernel_rfl) (by rfl) (VPure.nilCheck_el rfl rfl) ?_)) | refine VCode.seq ?_ | refine VCode.region rfl ?_ | refine VCode.skip ?_))
    refine VOps.gives rfl Try.func29 rfl (by kernel_rfl) rfl rfl rfl rfl rfl rfl rfl rfl (cloneI_v u.p (hl u (List.mem_of_getElem? hu))) ?_
    (repeat (first | ((with_reducible refine VOps.same ?_); (first | (refine VOps.nil ?_; try dsimp only [VThen, VBlock]) | refine VOps.vp (by rfl) (by kernel_rfl) (by rfl) (VPure.assign rfl rfl) ?_))))
    refine VCode.retD rfl rfl (.tmp rfl .nil) ?_
    rw [e]; rfl
set_option maxHeartbeats 4000000 in
theorem node_v (l : List Nd) (sym pos : Int) (hl : l.length ≤ 1000000) : VCalls Try.prog 9 [.ptr 0 0, .val (.int .i64 sym), .val (.int .i64 pos)] (stH l) 3 (Leaves (.tup [.val (.int .i64 (nodeAt l sym pos : Int)), .val (.bool (!thereB l sym pos))]) (stH' (addNode l sym pos)) 4) := by
  refine VCalls.enterL (n := 51) Try.func9 rfl rfl (by simp) (fun cx hcx => ?_)
  unfold stH stH'
  have hf := known_find sym pos l 0
  (repeat (first | ((with_reducible refine VOps.same ?_); (first | (refine VOps.nil ?_; try dsimp only [VThen, VBlock]) | refine VOps.vp (by rfl) (by kernel_rfl) (by rfl) (VPure.move rfl rfl) ?_ | refine VOps.vp (by rfl) (by kernel_rfl) (by rfl) (VPure.assign rfl rfl) ?_ | refine VOps.vp (by rfl) (by kernel_rfl) (by rfl) (VPure.nil_ptr rfl TI.und' rfl rfl rfl) ?_)) | refine VCode.seq ?_ | refine VCode.region rfl ?_))
  refine VCode.cond_f rfl rfl ?_
  (repeat (first | ((with_reducible refine VOps.same ?_); (first | refine VOps.vp (by rfl) (by kernel_rfl) (by rfl) (VPure.move rfl rfl) ?_ | refine VOps.vp (by rfl) (by kernel_rfl) (by rfl) (VPure.field_ptr rfl rfl rfl) ?_ | refine VOps.vv (by rfl) (by kernel_rfl) (by rfl) (VLoad.box1 rfl rfl rfl rfl (by rfl) (by decide)) ?_ | refine VOps.vp (by rfl) (by kernel_rfl) (by rfl) (VPure.buildC rfl (by kernel_rfl) rfl (by rfl)) ?_ | refine VOps.vp (by rfl) (by kernel_rfl) (by rfl) (VPure.nilCheck_ptr rfl rfl rfl) ?_)) | refine VCode.seq ?_ | refine VCode.region rfl ?_ | refine VCode.skip ?_))
  cases hi : l.findIdx? (isNd sym pos) with
  | some i =>
    have e1 : nodeAt l sym pos = i := by unfold nodeAt; rw [hi]; rfl
    have e2 : thereB l sym pos = true := by unfold thereB; rw [hi]; rfl
    have e3 : addNode l sym pos = l := by unfold addNode; rw [if_pos e2]
    rw [hi] at hf
    refine VOps.vv rfl (by kernel_rfl) rfl (VLoad.lookup (ds := [.int .i64, .int .i64]) rfl rfl rfl rfl rfl (by decide) rfl rfl (known_len l 0) hf (by decide)) ?_
    (repeat (first | ((with_reducible refine VOps.same ?_); (first | (refine VOps.nil ?_; try dsimp only [VThen, VBlock]) | refine VOps.vp (by rfl) (by kernel_rfl) (by rfl) (VPure.move rfl rfl) ?_ | refine VOps.vp (by rfl) (by kernel_rfl) (by rfl) (VPure.assign rfl rfl) ?_ | refine VOps.vp (by rfl) (by kernel_rfl) (by rfl) (VPure.extract rfl rfl rfl) ?_ | refine VOps.vp (by rfl) (by kernel_rfl) (by rfl) (VPure.not rfl rfl) ?_)) | refine VCode.seq ?_ | refine VCode.region rfl ?_))
    refine VCode.cond_f rfl rfl ?_
    (repeat (first | ((with_reducible refine VOps.same ?_); (first | (refine VOps.nil ?_; try dsimp only [VThen, VBlock]) | refine VOps.vp (by rfl) (by kernel_rfl) (by rfl) (VPure.move rfl rfl) ?_ | refine VOps.vp (by rfl) (by kernel_rfl) (by rfl) (VPure.assign rfl rfl) ?_ | refine VOps.vp (by rfl) (by kernel_rfl) (by rfl) (VPure.not rfl rfl) ?_)) | refine VCode.seq ?_ | refine VCode.region rfl ?_ | refine VCode.skip ?_))
    refine VCode.again (id := 1) rfl ?_
    refine VCode.ret ?_
    rw [e1, e2, e3]
    (show Less cx _ _; refine Less.mkx (l := [0, 1, 2, 3]) (st' := ⟨[(6, .val (.int .i64 (i : Int))), (7, .val (.bool false))], [(0, .cells 57 [.ref 3, .ref 2]), (3, .nest 61 2 (l.map rowN) none), (2, .map (knownE l))], 4⟩) 3 hcx (Nat.le_of_ble_eq_true rfl) (by decide) ?ss ?hh rfl (by decide) rfl ⟨_, (.tmp rfl (.tmp rfl .nil)), rfl, rfl, rfl⟩; (case ss => repeat (first | exact SubS.nil | refine SubS.cons rfl rfl ?_ | refine SubS.cons (congrArg (fun z => some (V.val (Value.int IntKind.i64 z))) (by omega)) rfl ?_ | refine SubS.cons (congrArg (fun z => some (V.val (Value.bool z))) (by assumption)) rfl ?_)); (case hh => repeat (first | exact SubH.nil | refine SubH.cons rfl rfl rfl ?_)))
  | none =>
    have e1 : nodeAt l sym pos = l.length := by unfold nodeAt; rw [hi]; rfl
    have e2 : thereB l sym pos = false := by unfold thereB; rw [hi]; rfl
    have e3 : addNode l sym pos = l ++ [Nd.mk sym pos [] []] := by unfold addNode; rw [if_neg (by rw [e2]; exact Bool.false_ne_true)]
    rw [hi] at hf
    refine VOps.vv rfl (by kernel_rfl) rfl (VLoad.lookup (ds := [.int .i64, .int .i64]) rfl rfl rfl rfl rfl (by decide) rfl rfl (known_len l 0) hf (by decide)) ?_
    (repeat (first | ((with_reducible refine VOps.same ?_); (first | (refine VOps.nil ?_; try dsimp only [VThen, VBlock]) | refine VOps.vp (by rfl) (by kernel_rfl) (by rfl) (VPure.move rfl rfl) ?_ | refine VOps.vp (by rfl) (by kernel_rfl) (by rfl) (VPure.assign rfl rfl) ?_ | refine VOps.vp (by rfl) (by kernel_rfl) (by rfl) (VPure.extract rfl rfl rfl) ?_ | refine VOps.vp (by rfl) (by kernel_rfl) (by rfl) (VPure.not rfl rfl) ?_)) | refine VCode.seq ?_ | refine VCode.region rfl ?_))
    refine VCode.cond_t rfl rfl ?_
    (repeat (first | ((with_reducible refine VOps.same ?_); (first | (refine VOps.nil ?_; try dsimp only [VThen, VBlock]) | refine VOps.vp (by rfl) (by kernel_rfl) (by rfl) (VPure.move rfl rfl) ?_ | refine VOps.vp (by rfl) (by kernel_rfl) (by rfl) (VPure.assign rfl rfl) ?_ | refine VOps.vp (by rfl) (by kernel_rfl) (by rfl) (VPure.field_ptr rfl rfl rfl) ?_ | refine VOps.vv (by rfl) (by kernel_rfl) (by rfl) (VLoad.box1 rfl rfl rfl rfl (by rfl) (by decide)) ?_ | refine VOps.vp (by rfl) (by kernel_rfl) (by rfl) (VPure.buildC rfl (by kernel_rfl) rfl (by rfl)) ?_ | refine VOps.vp (by rfl) (by kernel_rfl) (by rfl) (VPure.nilCheck_ptr rfl rfl rfl) ?_ | refine VOps.vp (by rfl) (by kernel_rfl) (by rfl) (VPure.len_nest TI.und' rfl rfl rfl) ?_)) | refine VCode.seq ?_ | refine VCode.region rfl ?_))
    refine VOps.says (d := 37) (v := .val (.int .i64 (l.length : Int))) rfl (by rw [List.length_map]) ?_
    refine VOps.says (d := 8) (v := .val (.int .i64 (l.length : Int))) rfl (by rw [List.length_map]) ?_
    refine VOps.mapPut (ds := [.int .i64, .int .i64]) (es' := knownE (l ++ [Nd.mk sym pos [] []])) rfl rfl (by kernel_rfl) rfl rfl rfl rfl rfl (by decide) rfl rfl (known_len l 0) hf rfl rfl (known_snoc l (Nd.mk sym pos [] [])) ?_
    (repeat (first | ((with_reducible refine VOps.same ?_); (first | (refine VOps.nil ?_; try dsimp only [VThen, VBlock]) | refine VOps.vp (by rfl) (by kernel_rfl) (by rfl) (VPure.move rfl rfl) ?_ | refine VOps.vp (by rfl) (by kernel_rfl) (by rfl) (VPure.field_ptr rfl rfl rfl) ?_ | refine VOps.vv (by rfl) (by kernel_rfl) (by rfl) (VLoad.box1 rfl rfl rfl rfl (by rfl) (by decide)) ?_ | refine VOps.vp (by rfl) (by kernel_rfl) (by rfl) (VPure.buildC rfl (by kernel_rfl) rfl (by rfl)) ?_ | refine VOps.one rfl rfl (by kernel_rfl) rfl (by rfl) (by decide) (by decide) rfl (by rfl) (by rfl) ?_ | refine VOps.vp (by rfl) (by kernel_rfl) (by rfl) (VPure.nilCheck_ptr rfl rfl rfl) ?_)) | refine VCode.region rfl ?_))
    refine VOps.append_nest (rows' := (l ++ [Nd.mk sym pos [] []]).map rowN) (fun _ => [.own 52 2 [], .own 3 1 []]) rfl rfl (by kernel_rfl) rfl (by rfl) (by decide) rfl rfl rfl (.arr rfl) ?hp ?b1 ?b2 (by rw [List.map_append]; rfl) ?_
    case hp =>
      intro row hr
      obtain rfl := List.mem_singleton.1 hr
      exact .cons (.nil 52 2) (.cons (.nil 3 1) .nil)
    case b1 => simp only [List.length_map, List.length_cons, List.length_nil]; unfold most; omega
    case b2 => simp only [List.length_map, List.length_cons, List.length_nil]; unfold most; omega
    (repeat (first | ((with_reducible refine VOps.same ?_); (first | (refine VOps.nil ?_; try dsimp only [VThen, VBlock]) | refine VOps.vp (by rfl) (by kernel_rfl) (by rfl) (VPure.move rfl rfl) ?_ | refine VOps.vp (by rfl) (by kernel_rfl) (by rfl) (VPure.assign rfl rfl) ?_ | refine VOps.vp (by rfl) (by kernel_rfl) (by rfl) (VPure.field_ptr rfl rfl rfl) ?_ | refine VOps.vp (by rfl) (by kernel_rfl) (by rfl) (VPure.not rfl rfl) ?_ | refine VOps.store rfl rfl (by kernel_rfl) rfl rfl rfl rfl rfl rfl (Nat.le_of_ble_eq_true (by rfl)) rfl ?_ | refine VOps.vp (by rfl) (by kernel_rfl) (by rfl) (VPure.nilCheck_ptr rfl rfl rfl) ?_)) | refine VCode.seq ?_ | refine VCode.region rfl ?_))
    refine VCode.ret ?_
    rw [e1, e2, e3]
    (show Less cx _ _; refine Less.mkx (l := [0, 1, 2, 4]) (st' := ⟨[(6, .val (.int .i64 (l.length : Int))), (7, .val (.bool true))], [(0, .cells 57 [.ref 3, .ref 2]), (3, .nest 61 2 ((l ++ [Nd.mk sym pos [] []]).map rowN) none), (2, .map (knownE (l ++ [Nd.mk sym pos [] []])))], 4⟩) 3 hcx (Nat.le_of_ble_eq_true rfl) (by decide) ?ss ?hh rfl (by decide) rfl ⟨_, (.tmp rfl (.tmp rfl .nil)), rfl, rfl, rfl⟩; (case ss => repeat (first | exact SubS.nil | refine SubS.cons rfl rfl ?_ | refine SubS.cons (congrArg (fun z => some (V.val (Value.int IntKind.i64 z))) (by omega)) rfl ?_ | refine SubS.cons (congrArg (fun z => some (V.val (Value.bool z))) (by assumption)) rfl ?_)); (case hh => repeat (first | exact SubH.nil | refine SubH.cons rfl rfl rfl ?_)))
end Go.Proofs.Ytdkgbkmaeeicoaa.V
