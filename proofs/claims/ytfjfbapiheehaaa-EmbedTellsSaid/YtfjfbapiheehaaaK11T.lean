/- What T needs of this session's own texts, part 11: put together by wip/dce.py. -/
import Derived.Test.YtfjfbapiheehaaaK10T
section
set_option linter.unusedVariables false
set_option linter.unusedSimpArgs false
namespace Go.Proofs.Ytfjfbapiheehaaa.V
open Go Go.RowKit Go.Proofs.Ytfjfbapiheehaaa.DG
section
variable {P : Program} {n : Nat} {cx : Cx} {ops : Array Oper} {K : St → Prop} {E : List PanicEntry → St → Prop} {dl pl : List (Nat × Oper)} {ph : Bool} {m : List Nat} {s : List (Nat × V)} {h : Heap} {x : Nat}
theorem VAny.says {d : Nat} {v u : V} (hd : lk s d = some u) (e : u = v) (H : VAny P n cx ph m ops K E dl pl ⟨(d, v) :: s, h, x⟩) : VAny P n cx ph m ops K E dl pl ⟨s, h, x⟩ := fun hn hp g a w r =>
 H hn hp g a w (r.same (over_same (by rw [hd, e])))
end
end Go.Proofs.Ytfjfbapiheehaaa.V
end
section
set_option linter.unusedVariables false
set_option linter.unusedSimpArgs false
namespace Go.Proofs.Ytfjfbapiheehaaa.V
open Go Go.RowKit Go.Proofs.Ytfjfbapiheehaaa.DG
section
variable {P : Program} {n : Nat} {cx : Cx} {st : St} {ops : Array Oper} {K : St → Prop} {E : List PanicEntry → St → Prop} {m : List Nat} {dl pl : List (Nat × Oper)}
theorem VAny.frz {id : Nat} {t : TypeId} {sz : Nat} (xs : List (List D)) (hh : lk st.h id = some (.arr t sz xs)) (h : VAny P n cx false m ops K E dl pl ⟨frzS id sz xs st.s, frzH id sz xs st.h, st.x⟩) : VAny P n cx false m ops K E dl pl st :=
 fun hn hp g a w r b hb => h hn hp g a w (r.frz hh) b ⟨hb.s, hb.x, fun i v k hi h1 h2 => hb.m i v k hi (by
  rw [gv_frz] at h1
  split at h1
  ·cases h1
  ·exact h1) h2⟩
end
section
variable {P : Program} {n : Nat} {cx : Cx} {Q : VExit → St → Prop} {st : St}
theorem VCode.inTo {x y : Code} {id : Nat} (st' : St) (h : VCode P n cx x (VThen (Less cx fun st => st = st') (VBlock id (VThen (fun st => VCode P n cx y Q st) Q))) st) (h2 : VCode P n cx y Q st') : VCode P n cx x (VBlock id (VThen (fun st => VCode P n cx y Q st) Q)) st :=
 h.mono fun e s hq => by
  cases e with
  | normal => exact VCode.less (let ⟨l, s', a, b, c, d⟩ := hq; ⟨l, s', a, b, c, d ▸ h2⟩)
  | exit id => exact hq
  | ret => exact hq
  | panic c => exact hq
end
set_option maxHeartbeats 8000000 in
theorem own_o (g : Gr) (hg : Sized g) : VCalls Try.prog 13 [gV g] [] 0 (Leaves (.agg [.sl 1 (g.terms.map encS), .sl 1 (g.names.map encS), .ref 0]) [(0, .arr 46 2 (g.rules.map encR)), (1, .cells 25 [.sl 1 (g.terms.map encS), .sl 1 (g.names.map encS), .ref 0])] 2) := by
 have ht := hg.terms
 have hn := hg.names
 have hr := hg.rules
 refine VCalls.enterL (n := 42) Try.func13 rfl rfl (by simp) (fun cx hcx => ?_)
 (repeat (first | ((with_reducible refine VOps.same ?_); (first | (refine VOps.nil ?_; try dsimp only [VThen, VBlock]) | refine VOps.alloc rfl rfl (by kernel_rfl) rfl (by kernel_rfl) rfl ?_ | refine VOps.box rfl rfl (by kernel_rfl) rfl rfl rfl rfl ?_)) | refine VCode.seq ?_ | refine VCode.region rfl ?_))
 refine VCode.thenTo ⟨[(1, .ptr 0 0), (2, .ptr 1 0), (3, .ptr 2 0)], [(0, gO g), (1, .cells 25 [.val (.slice none 0 0), .val (.slice none 0 0), .val (.slice none 0 0)]), (2, .cells 25 [.sl 1 (g.terms.map encS), .sl 1 (g.names.map encS), .val (.slice none 0 0)])], 3⟩ ?_ ?_
 ·refine VCode.drawAny [2, 3, 4, 5, 6] (by kernel_rfl) rfl ?_
  refine VAny.pureI (i := 1) rfl rfl (by kernel_rfl) rfl (VPure.field_ptr rfl rfl rfl) ?_
  refine VAny.loadI (i := 2) rfl rfl (by kernel_rfl) rfl (VLoad.box1 rfl rfl rfl rfl (by rfl) (by decide)) ?_
  refine VAny.pureI (i := 5) rfl rfl (by kernel_rfl) rfl (VPure.field_ptr rfl rfl rfl) ?_
  refine VAny.loadI (i := 6) rfl rfl (by kernel_rfl) rfl (VLoad.box1 rfl rfl rfl rfl (by rfl) (by decide)) ?_
  refine VAny.movesI (is := [0, 4, 9]) (by kernel_rfl) (by simp) rfl (allC ?_ (allC ?_ (all1 ?_)))
  ·refine VMv.lit (rows := []) rfl rfl rfl rfl (by kernel_rfl) (by rfl) (by decide) (by decide) rfl (by rfl) (by rfl) (by rfl) (by rfl) ?_
   refine VAny.movesI (is := [3, 4, 9]) (by kernel_rfl) (by simp) rfl (allC ?_ (allC ?_ (all1 ?_)))
   ·refine VMv.append (zs := g.terms.map encS) rfl rfl rfl rfl (by rfl) (by decide) rfl (.arr rfl) rfl rfl (.sl) (by simp only [List.length_append, List.length_cons, List.length_nil, List.length_map]; unfold most; omega) (by simp only [List.length_append, List.length_cons, List.length_nil, List.length_map]; unfold most; omega) rfl ( by simp) ?_
    refine VAny.frz (id := 3) (g.terms.map encS) rfl ?_
    refine VAny.movesI (is := [4, 9]) (by kernel_rfl) (by simp) rfl (allC ?_ (all1 ?_))
    ·refine VMv.lit (rows := []) rfl rfl rfl rfl (by kernel_rfl) (by rfl) (by decide) (by decide) rfl (by rfl) (by rfl) (by rfl) (by rfl) ?_
     refine VAny.movesI (is := [7, 9]) (by kernel_rfl) (by simp) rfl (allC ?_ (all1 ?_))
     ·refine VMv.append (zs := g.names.map encS) rfl rfl rfl rfl (by rfl) (by decide) rfl (.arr rfl) rfl rfl (.sl) (by simp only [List.length_append, List.length_cons, List.length_nil, List.length_map]; unfold most; omega) (by simp only [List.length_append, List.length_cons, List.length_nil, List.length_map]; unfold most; omega) rfl ( by simp) ?_
      refine VAny.frz (id := 5) (g.names.map encS) rfl ?_
      refine VAny.pureI (i := 8) rfl rfl (by kernel_rfl) rfl (VPure.buildC rfl (by kernel_rfl) rfl (by rfl)) ?_
      refine VAny.movesI (is := [9]) (by kernel_rfl) (by simp) rfl (all1 ?_)
      ·refine VMv.alloc rfl rfl rfl rfl (by kernel_rfl) rfl ?_
       refine VAny.movesI (is := [10]) (by kernel_rfl) (by simp) rfl (all1 ?_)
       ·refine VMv.store rfl rfl rfl (by rfl) rfl rfl rfl rfl rfl rfl (leR (by rfl)) rfl ?_
        refine VAny.done ?_
        (refine Less.mk (l := [0, 1, 6]) hcx ?ss ?hh rfl (by decide) rfl rfl; (case ss => repeat (first | exact SubS.nil | refine SubS.cons rfl rfl ?_ | refine SubS.cons (ciI (by omega)) rfl ?_ | refine SubS.cons (ciB (by assumption)) rfl ?_)); (case hh => repeat (first | exact SubH.nil | refine SubH.cons rfl rfl rfl ?_)))
     ·refine VMv.alloc rfl rfl rfl rfl (by kernel_rfl) rfl ?_
      refine VAny.movesI (is := [7]) (by kernel_rfl) (by simp) rfl (all1 ?_)
      ·refine VMv.append (zs := g.names.map encS) rfl rfl rfl rfl (by rfl) (by decide) rfl (.arr rfl) rfl rfl (.sl) (by simp only [List.length_append, List.length_cons, List.length_nil, List.length_map]; unfold most; omega) (by simp only [List.length_append, List.length_cons, List.length_nil, List.length_map]; unfold most; omega) rfl ( by simp) ?_
       refine VAny.frz (id := 6) (g.names.map encS) rfl ?_
       refine VAny.pureI (i := 8) rfl rfl (by kernel_rfl) rfl (VPure.buildC rfl (by kernel_rfl) rfl (by rfl)) ?_
       refine VAny.movesI (is := [10]) (by kernel_rfl) (by simp) rfl (all1 ?_)
       ·refine VMv.store rfl rfl rfl (by rfl) rfl rfl rfl rfl rfl rfl (leR (by rfl)) rfl ?_
        refine VAny.done ?_
        (refine Less.mk (l := [0, 1, 5]) hcx ?ss ?hh rfl (by decide) rfl rfl; (case ss => repeat (first | exact SubS.nil | refine SubS.cons rfl rfl ?_ | refine SubS.cons (ciI (by omega)) rfl ?_ | refine SubS.cons (ciB (by assumption)) rfl ?_)); (case hh => repeat (first | exact SubH.nil | refine SubH.cons rfl rfl rfl ?_)))
    ·refine VMv.alloc rfl rfl rfl rfl (by kernel_rfl) rfl ?_
     refine VAny.movesI (is := [4]) (by kernel_rfl) (by simp) rfl (all1 ?_)
     ·refine VMv.lit (rows := []) rfl rfl rfl rfl (by kernel_rfl) (by rfl) (by decide) (by decide) rfl (by rfl) (by rfl) (by rfl) (by rfl) ?_
      refine VAny.movesI (is := [7]) (by kernel_rfl) (by simp) rfl (all1 ?_)
      ·refine VMv.append (zs := g.names.map encS) rfl rfl rfl rfl (by rfl) (by decide) rfl (.arr rfl) rfl rfl (.sl) (by simp only [List.length_append, List.length_cons, List.length_nil, List.length_map]; unfold most; omega) (by simp only [List.length_append, List.length_cons, List.length_nil, List.length_map]; unfold most; omega) rfl ( by simp) ?_
       refine VAny.frz (id := 6) (g.names.map encS) rfl ?_
       refine VAny.pureI (i := 8) rfl rfl (by kernel_rfl) rfl (VPure.buildC rfl (by kernel_rfl) rfl (by rfl)) ?_
       refine VAny.movesI (is := [10]) (by kernel_rfl) (by simp) rfl (all1 ?_)
       ·refine VMv.store rfl rfl rfl (by rfl) rfl rfl rfl rfl rfl rfl (leR (by rfl)) rfl ?_
        refine VAny.done ?_
        (refine Less.mk (l := [0, 1, 4]) hcx ?ss ?hh rfl (by decide) rfl rfl; (case ss => repeat (first | exact SubS.nil | refine SubS.cons rfl rfl ?_ | refine SubS.cons (ciI (by omega)) rfl ?_ | refine SubS.cons (ciB (by assumption)) rfl ?_)); (case hh => repeat (first | exact SubH.nil | refine SubH.cons rfl rfl rfl ?_)))
   ·refine VMv.lit (rows := []) rfl rfl rfl rfl (by kernel_rfl) (by rfl) (by decide) (by decide) rfl (by rfl) (by rfl) (by rfl) (by rfl) ?_
    refine VAny.movesI (is := [3, 9]) (by kernel_rfl) (by simp) rfl (allC ?_ (all1 ?_))
    ·refine VMv.append (zs := g.terms.map encS) rfl rfl rfl rfl (by rfl) (by decide) rfl (.arr rfl) rfl rfl (.sl) (by simp only [List.length_append, List.length_cons, List.length_nil, List.length_map]; unfold most; omega) (by simp only [List.length_append, List.length_cons, List.length_nil, List.length_map]; unfold most; omega) rfl ( by simp) ?_
     refine VAny.frz (id := 4) (g.terms.map encS) rfl ?_
     refine VAny.movesI (is := [7, 9]) (by kernel_rfl) (by simp) rfl (allC ?_ (all1 ?_))
     ·refine VMv.append (zs := g.names.map encS) rfl rfl rfl rfl (by rfl) (by decide) rfl (.arr rfl) rfl rfl (.sl) (by simp only [List.length_append, List.length_cons, List.length_nil, List.length_map]; unfold most; omega) (by simp only [List.length_append, List.length_cons, List.length_nil, List.length_map]; unfold most; omega) rfl ( by simp) ?_
      refine VAny.frz (id := 5) (g.names.map encS) rfl ?_
      refine VAny.pureI (i := 8) rfl rfl (by kernel_rfl) rfl (VPure.buildC rfl (by kernel_rfl) rfl (by rfl)) ?_
      refine VAny.movesI (is := [9]) (by kernel_rfl) (by simp) rfl (all1 ?_)
      ·refine VMv.alloc rfl rfl rfl rfl (by kernel_rfl) rfl ?_
       refine VAny.movesI (is := [10]) (by kernel_rfl) (by simp) rfl (all1 ?_)
       ·refine VMv.store rfl rfl rfl (by rfl) rfl rfl rfl rfl rfl rfl (leR (by rfl)) rfl ?_
        refine VAny.done ?_
        (refine Less.mk (l := [0, 1, 6]) hcx ?ss ?hh rfl (by decide) rfl rfl; (case ss => repeat (first | exact SubS.nil | refine SubS.cons rfl rfl ?_ | refine SubS.cons (ciI (by omega)) rfl ?_ | refine SubS.cons (ciB (by assumption)) rfl ?_)); (case hh => repeat (first | exact SubH.nil | refine SubH.cons rfl rfl rfl ?_)))
     ·refine VMv.alloc rfl rfl rfl rfl (by kernel_rfl) rfl ?_
      refine VAny.movesI (is := [7]) (by kernel_rfl) (by simp) rfl (all1 ?_)
      ·refine VMv.append (zs := g.names.map encS) rfl rfl rfl rfl (by rfl) (by decide) rfl (.arr rfl) rfl rfl (.sl) (by simp only [List.length_append, List.length_cons, List.length_nil, List.length_map]; unfold most; omega) (by simp only [List.length_append, List.length_cons, List.length_nil, List.length_map]; unfold most; omega) rfl ( by simp) ?_
       refine VAny.frz (id := 6) (g.names.map encS) rfl ?_
       refine VAny.pureI (i := 8) rfl rfl (by kernel_rfl) rfl (VPure.buildC rfl (by kernel_rfl) rfl (by rfl)) ?_
       refine VAny.movesI (is := [10]) (by kernel_rfl) (by simp) rfl (all1 ?_)
       ·refine VMv.store rfl rfl rfl (by rfl) rfl rfl rfl rfl rfl rfl (leR (by rfl)) rfl ?_
        refine VAny.done ?_
        (refine Less.mk (l := [0, 1, 5]) hcx ?ss ?hh rfl (by decide) rfl rfl; (case ss => repeat (first | exact SubS.nil | refine SubS.cons rfl rfl ?_ | refine SubS.cons (ciI (by omega)) rfl ?_ | refine SubS.cons (ciB (by assumption)) rfl ?_)); (case hh => repeat (first | exact SubH.nil | refine SubH.cons rfl rfl rfl ?_)))
    ·refine VMv.alloc rfl rfl rfl rfl (by kernel_rfl) rfl ?_
     refine VAny.movesI (is := [3]) (by kernel_rfl) (by simp) rfl (all1 ?_)
     ·refine VMv.append (zs := g.terms.map encS) rfl rfl rfl rfl (by rfl) (by decide) rfl (.arr rfl) rfl rfl (.sl) (by simp only [List.length_append, List.length_cons, List.length_nil, List.length_map]; unfold most; omega) (by simp only [List.length_append, List.length_cons, List.length_nil, List.length_map]; unfold most; omega) rfl ( by simp) ?_
      refine VAny.frz (id := 5) (g.terms.map encS) rfl ?_
      refine VAny.movesI (is := [7]) (by kernel_rfl) (by simp) rfl (all1 ?_)
      ·refine VMv.append (zs := g.names.map encS) rfl rfl rfl rfl (by rfl) (by decide) rfl (.arr rfl) rfl rfl (.sl) (by simp only [List.length_append, List.length_cons, List.length_nil, List.length_map]; unfold most; omega) (by simp only [List.length_append, List.length_cons, List.length_nil, List.length_map]; unfold most; omega) rfl ( by simp) ?_
       refine VAny.frz (id := 6) (g.names.map encS) rfl ?_
       refine VAny.pureI (i := 8) rfl rfl (by kernel_rfl) rfl (VPure.buildC rfl (by kernel_rfl) rfl (by rfl)) ?_
       refine VAny.movesI (is := [10]) (by kernel_rfl) (by simp) rfl (all1 ?_)
       ·refine VMv.store rfl rfl rfl (by rfl) rfl rfl rfl rfl rfl rfl (leR (by rfl)) rfl ?_
        refine VAny.done ?_
        (refine Less.mk (l := [0, 1, 4]) hcx ?ss ?hh rfl (by decide) rfl rfl; (case ss => repeat (first | exact SubS.nil | refine SubS.cons rfl rfl ?_ | refine SubS.cons (ciI (by omega)) rfl ?_ | refine SubS.cons (ciB (by assumption)) rfl ?_)); (case hh => repeat (first | exact SubH.nil | refine SubH.cons rfl rfl rfl ?_)))
   ·refine VMv.alloc rfl rfl rfl rfl (by kernel_rfl) rfl ?_
    refine VAny.movesI (is := [3, 4]) (by kernel_rfl) (by simp) rfl (allC ?_ (all1 ?_))
    ·refine VMv.append (zs := g.terms.map encS) rfl rfl rfl rfl (by rfl) (by decide) rfl (.arr rfl) rfl rfl (.sl) (by simp only [List.length_append, List.length_cons, List.length_nil, List.length_map]; unfold most; omega) (by simp only [List.length_append, List.length_cons, List.length_nil, List.length_map]; unfold most; omega) rfl ( by simp) ?_
     refine VAny.frz (id := 4) (g.terms.map encS) rfl ?_
     refine VAny.movesI (is := [4]) (by kernel_rfl) (by simp) rfl (all1 ?_)
     ·refine VMv.lit (rows := []) rfl rfl rfl rfl (by kernel_rfl) (by rfl) (by decide) (by decide) rfl (by rfl) (by rfl) (by rfl) (by rfl) ?_
      refine VAny.movesI (is := [7]) (by kernel_rfl) (by simp) rfl (all1 ?_)
      ·refine VMv.append (zs := g.names.map encS) rfl rfl rfl rfl (by rfl) (by decide) rfl (.arr rfl) rfl rfl (.sl) (by simp only [List.length_append, List.length_cons, List.length_nil, List.length_map]; unfold most; omega) (by simp only [List.length_append, List.length_cons, List.length_nil, List.length_map]; unfold most; omega) rfl ( by simp) ?_
       refine VAny.frz (id := 6) (g.names.map encS) rfl ?_
       refine VAny.pureI (i := 8) rfl rfl (by kernel_rfl) rfl (VPure.buildC rfl (by kernel_rfl) rfl (by rfl)) ?_
       refine VAny.movesI (is := [10]) (by kernel_rfl) (by simp) rfl (all1 ?_)
       ·refine VMv.store rfl rfl rfl (by rfl) rfl rfl rfl rfl rfl rfl (leR (by rfl)) rfl ?_
        refine VAny.done ?_
        (refine Less.mk (l := [0, 1, 3]) hcx ?ss ?hh rfl (by decide) rfl rfl; (case ss => repeat (first | exact SubS.nil | refine SubS.cons rfl rfl ?_ | refine SubS.cons (ciI (by omega)) rfl ?_ | refine SubS.cons (ciB (by assumption)) rfl ?_)); (case hh => repeat (first | exact SubH.nil | refine SubH.cons rfl rfl rfl ?_)))
    ·refine VMv.lit (rows := []) rfl rfl rfl rfl (by kernel_rfl) (by rfl) (by decide) (by decide) rfl (by rfl) (by rfl) (by rfl) (by rfl) ?_
     refine VAny.movesI (is := [3]) (by kernel_rfl) (by simp) rfl (all1 ?_)
     ·refine VMv.append (zs := g.terms.map encS) rfl rfl rfl rfl (by rfl) (by decide) rfl (.arr rfl) rfl rfl (.sl) (by simp only [List.length_append, List.length_cons, List.length_nil, List.length_map]; unfold most; omega) (by simp only [List.length_append, List.length_cons, List.length_nil, List.length_map]; unfold most; omega) rfl ( by simp) ?_
      refine VAny.frz (id := 5) (g.terms.map encS) rfl ?_
      refine VAny.movesI (is := [7]) (by kernel_rfl) (by simp) rfl (all1 ?_)
      ·refine VMv.append (zs := g.names.map encS) rfl rfl rfl rfl (by rfl) (by decide) rfl (.arr rfl) rfl rfl (.sl) (by simp only [List.length_append, List.length_cons, List.length_nil, List.length_map]; unfold most; omega) (by simp only [List.length_append, List.length_cons, List.length_nil, List.length_map]; unfold most; omega) rfl ( by simp) ?_
       refine VAny.frz (id := 6) (g.names.map encS) rfl ?_
       refine VAny.pureI (i := 8) rfl rfl (by kernel_rfl) rfl (VPure.buildC rfl (by kernel_rfl) rfl (by rfl)) ?_
       refine VAny.movesI (is := [10]) (by kernel_rfl) (by simp) rfl (all1 ?_)
       ·refine VMv.store rfl rfl rfl (by rfl) rfl rfl rfl rfl rfl rfl (leR (by rfl)) rfl ?_
        refine VAny.done ?_
        (refine Less.mk (l := [0, 1, 3]) hcx ?ss ?hh rfl (by decide) rfl rfl; (case ss => repeat (first | exact SubS.nil | refine SubS.cons rfl rfl ?_ | refine SubS.cons (ciI (by omega)) rfl ?_ | refine SubS.cons (ciB (by assumption)) rfl ?_)); (case hh => repeat (first | exact SubH.nil | refine SubH.cons rfl rfl rfl ?_)))
  ·refine VMv.lit (rows := []) rfl rfl rfl rfl (by kernel_rfl) (by rfl) (by decide) (by decide) rfl (by rfl) (by rfl) (by rfl) (by rfl) ?_
   refine VAny.movesI (is := [0, 9]) (by kernel_rfl) (by simp) rfl (allC ?_ (all1 ?_))
   ·refine VMv.lit (rows := []) rfl rfl rfl rfl (by kernel_rfl) (by rfl) (by decide) (by decide) rfl (by rfl) (by rfl) (by rfl) (by rfl) ?_
    refine VAny.movesI (is := [3, 9]) (by kernel_rfl) (by simp) rfl (allC ?_ (all1 ?_))
    ·refine VMv.append (zs := g.terms.map encS) rfl rfl rfl rfl (by rfl) (by decide) rfl (.arr rfl) rfl rfl (.sl) (by simp only [List.length_append, List.length_cons, List.length_nil, List.length_map]; unfold most; omega) (by simp only [List.length_append, List.length_cons, List.length_nil, List.length_map]; unfold most; omega) rfl ( by simp) ?_
     refine VAny.frz (id := 4) (g.terms.map encS) rfl ?_
     refine VAny.movesI (is := [7, 9]) (by kernel_rfl) (by simp) rfl (allC ?_ (all1 ?_))
     ·refine VMv.append (zs := g.names.map encS) rfl rfl rfl rfl (by rfl) (by decide) rfl (.arr rfl) rfl rfl (.sl) (by simp only [List.length_append, List.length_cons, List.length_nil, List.length_map]; unfold most; omega) (by simp only [List.length_append, List.length_cons, List.length_nil, List.length_map]; unfold most; omega) rfl ( by simp) ?_
      refine VAny.frz (id := 5) (g.names.map encS) rfl ?_
      refine VAny.pureI (i := 8) rfl rfl (by kernel_rfl) rfl (VPure.buildC rfl (by kernel_rfl) rfl (by rfl)) ?_
      refine VAny.movesI (is := [9]) (by kernel_rfl) (by simp) rfl (all1 ?_)
      ·refine VMv.alloc rfl rfl rfl rfl (by kernel_rfl) rfl ?_
       refine VAny.movesI (is := [10]) (by kernel_rfl) (by simp) rfl (all1 ?_)
       ·refine VMv.store rfl rfl rfl (by rfl) rfl rfl rfl rfl rfl rfl (leR (by rfl)) rfl ?_
        refine VAny.done ?_
        (refine Less.mk (l := [0, 1, 6]) hcx ?ss ?hh rfl (by decide) rfl rfl; (case ss => repeat (first | exact SubS.nil | refine SubS.cons rfl rfl ?_ | refine SubS.cons (ciI (by omega)) rfl ?_ | refine SubS.cons (ciB (by assumption)) rfl ?_)); (case hh => repeat (first | exact SubH.nil | refine SubH.cons rfl rfl rfl ?_)))
     ·refine VMv.alloc rfl rfl rfl rfl (by kernel_rfl) rfl ?_
      refine VAny.movesI (is := [7]) (by kernel_rfl) (by simp) rfl (all1 ?_)
      ·refine VMv.append (zs := g.names.map encS) rfl rfl rfl rfl (by rfl) (by decide) rfl (.arr rfl) rfl rfl (.sl) (by simp only [List.length_append, List.length_cons, List.length_nil, List.length_map]; unfold most; omega) (by simp only [List.length_append, List.length_cons, List.length_nil, List.length_map]; unfold most; omega) rfl ( by simp) ?_
       refine VAny.frz (id := 6) (g.names.map encS) rfl ?_
       refine VAny.pureI (i := 8) rfl rfl (by kernel_rfl) rfl (VPure.buildC rfl (by kernel_rfl) rfl (by rfl)) ?_
       refine VAny.movesI (is := [10]) (by kernel_rfl) (by simp) rfl (all1 ?_)
       ·refine VMv.store rfl rfl rfl (by rfl) rfl rfl rfl rfl rfl rfl (leR (by rfl)) rfl ?_
        refine VAny.done ?_
        (refine Less.mk (l := [0, 1, 5]) hcx ?ss ?hh rfl (by decide) rfl rfl; (case ss => repeat (first | exact SubS.nil | refine SubS.cons rfl rfl ?_ | refine SubS.cons (ciI (by omega)) rfl ?_ | refine SubS.cons (ciB (by assumption)) rfl ?_)); (case hh => repeat (first | exact SubH.nil | refine SubH.cons rfl rfl rfl ?_)))
    ·refine VMv.alloc rfl rfl rfl rfl (by kernel_rfl) rfl ?_
     refine VAny.movesI (is := [3]) (by kernel_rfl) (by simp) rfl (all1 ?_)
     ·refine VMv.append (zs := g.terms.map encS) rfl rfl rfl rfl (by rfl) (by decide) rfl (.arr rfl) rfl rfl (.sl) (by simp only [List.length_append, List.length_cons, List.length_nil, List.length_map]; unfold most; omega) (by simp only [List.length_append, List.length_cons, List.length_nil, List.length_map]; unfold most; omega) rfl ( by simp) ?_
      refine VAny.frz (id := 5) (g.terms.map encS) rfl ?_
      refine VAny.movesI (is := [7]) (by kernel_rfl) (by simp) rfl (all1 ?_)
      ·refine VMv.append (zs := g.names.map encS) rfl rfl rfl rfl (by rfl) (by decide) rfl (.arr rfl) rfl rfl (.sl) (by simp only [List.length_append, List.length_cons, List.length_nil, List.length_map]; unfold most; omega) (by simp only [List.length_append, List.length_cons, List.length_nil, List.length_map]; unfold most; omega) rfl ( by simp) ?_
       refine VAny.frz (id := 6) (g.names.map encS) rfl ?_
       refine VAny.pureI (i := 8) rfl rfl (by kernel_rfl) rfl (VPure.buildC rfl (by kernel_rfl) rfl (by rfl)) ?_
       refine VAny.movesI (is := [10]) (by kernel_rfl) (by simp) rfl (all1 ?_)
       ·refine VMv.store rfl rfl rfl (by rfl) rfl rfl rfl rfl rfl rfl (leR (by rfl)) rfl ?_
        refine VAny.done ?_
        (refine Less.mk (l := [0, 1, 4]) hcx ?ss ?hh rfl (by decide) rfl rfl; (case ss => repeat (first | exact SubS.nil | refine SubS.cons rfl rfl ?_ | refine SubS.cons (ciI (by omega)) rfl ?_ | refine SubS.cons (ciB (by assumption)) rfl ?_)); (case hh => repeat (first | exact SubH.nil | refine SubH.cons rfl rfl rfl ?_)))
   ·refine VMv.alloc rfl rfl rfl rfl (by kernel_rfl) rfl ?_
    refine VAny.movesI (is := [0]) (by kernel_rfl) (by simp) rfl (all1 ?_)
    ·refine VMv.lit (rows := []) rfl rfl rfl rfl (by kernel_rfl) (by rfl) (by decide) (by decide) rfl (by rfl) (by rfl) (by rfl) (by rfl) ?_
     refine VAny.movesI (is := [3]) (by kernel_rfl) (by simp) rfl (all1 ?_)
     ·refine VMv.append (zs := g.terms.map encS) rfl rfl rfl rfl (by rfl) (by decide) rfl (.arr rfl) rfl rfl (.sl) (by simp only [List.length_append, List.length_cons, List.length_nil, List.length_map]; unfold most; omega) (by simp only [List.length_append, List.length_cons, List.length_nil, List.length_map]; unfold most; omega) rfl ( by simp) ?_
      refine VAny.frz (id := 5) (g.terms.map encS) rfl ?_
      refine VAny.movesI (is := [7]) (by kernel_rfl) (by simp) rfl (all1 ?_)
      ·refine VMv.append (zs := g.names.map encS) rfl rfl rfl rfl (by rfl) (by decide) rfl (.arr rfl) rfl rfl (.sl) (by simp only [List.length_append, List.length_cons, List.length_nil, List.length_map]; unfold most; omega) (by simp only [List.length_append, List.length_cons, List.length_nil, List.length_map]; unfold most; omega) rfl ( by simp) ?_
       refine VAny.frz (id := 6) (g.names.map encS) rfl ?_
       refine VAny.pureI (i := 8) rfl rfl (by kernel_rfl) rfl (VPure.buildC rfl (by kernel_rfl) rfl (by rfl)) ?_
       refine VAny.movesI (is := [10]) (by kernel_rfl) (by simp) rfl (all1 ?_)
       ·refine VMv.store rfl rfl rfl (by rfl) rfl rfl rfl rfl rfl rfl (leR (by rfl)) rfl ?_
        refine VAny.done ?_
        (refine Less.mk (l := [0, 1, 3]) hcx ?ss ?hh rfl (by decide) rfl rfl; (case ss => repeat (first | exact SubS.nil | refine SubS.cons rfl rfl ?_ | refine SubS.cons (ciI (by omega)) rfl ?_ | refine SubS.cons (ciB (by assumption)) rfl ?_)); (case hh => repeat (first | exact SubH.nil | refine SubH.cons rfl rfl rfl ?_)))
  ·refine VMv.alloc rfl rfl rfl rfl (by kernel_rfl) rfl ?_
   refine VAny.movesI (is := [0, 4]) (by kernel_rfl) (by simp) rfl (allC ?_ (all1 ?_))
   ·refine VMv.lit (rows := []) rfl rfl rfl rfl (by kernel_rfl) (by rfl) (by decide) (by decide) rfl (by rfl) (by rfl) (by rfl) (by rfl) ?_
    refine VAny.movesI (is := [3, 4]) (by kernel_rfl) (by simp) rfl (allC ?_ (all1 ?_))
    ·refine VMv.append (zs := g.terms.map encS) rfl rfl rfl rfl (by rfl) (by decide) rfl (.arr rfl) rfl rfl (.sl) (by simp only [List.length_append, List.length_cons, List.length_nil, List.length_map]; unfold most; omega) (by simp only [List.length_append, List.length_cons, List.length_nil, List.length_map]; unfold most; omega) rfl ( by simp) ?_
     refine VAny.frz (id := 4) (g.terms.map encS) rfl ?_
     refine VAny.movesI (is := [4]) (by kernel_rfl) (by simp) rfl (all1 ?_)
     ·refine VMv.lit (rows := []) rfl rfl rfl rfl (by kernel_rfl) (by rfl) (by decide) (by decide) rfl (by rfl) (by rfl) (by rfl) (by rfl) ?_
      refine VAny.movesI (is := [7]) (by kernel_rfl) (by simp) rfl (all1 ?_)
      ·refine VMv.append (zs := g.names.map encS) rfl rfl rfl rfl (by rfl) (by decide) rfl (.arr rfl) rfl rfl (.sl) (by simp only [List.length_append, List.length_cons, List.length_nil, List.length_map]; unfold most; omega) (by simp only [List.length_append, List.length_cons, List.length_nil, List.length_map]; unfold most; omega) rfl ( by simp) ?_
       refine VAny.frz (id := 6) (g.names.map encS) rfl ?_
       refine VAny.pureI (i := 8) rfl rfl (by kernel_rfl) rfl (VPure.buildC rfl (by kernel_rfl) rfl (by rfl)) ?_
       refine VAny.movesI (is := [10]) (by kernel_rfl) (by simp) rfl (all1 ?_)
       ·refine VMv.store rfl rfl rfl (by rfl) rfl rfl rfl rfl rfl rfl (leR (by rfl)) rfl ?_
        refine VAny.done ?_
        (refine Less.mk (l := [0, 1, 2]) hcx ?ss ?hh rfl (by decide) rfl rfl; (case ss => repeat (first | exact SubS.nil | refine SubS.cons rfl rfl ?_ | refine SubS.cons (ciI (by omega)) rfl ?_ | refine SubS.cons (ciB (by assumption)) rfl ?_)); (case hh => repeat (first | exact SubH.nil | refine SubH.cons rfl rfl rfl ?_)))
    ·refine VMv.lit (rows := []) rfl rfl rfl rfl (by kernel_rfl) (by rfl) (by decide) (by decide) rfl (by rfl) (by rfl) (by rfl) (by rfl) ?_
     refine VAny.movesI (is := [3]) (by kernel_rfl) (by simp) rfl (all1 ?_)
     ·refine VMv.append (zs := g.terms.map encS) rfl rfl rfl rfl (by rfl) (by decide) rfl (.arr rfl) rfl rfl (.sl) (by simp only [List.length_append, List.length_cons, List.length_nil, List.length_map]; unfold most; omega) (by simp only [List.length_append, List.length_cons, List.length_nil, List.length_map]; unfold most; omega) rfl ( by simp) ?_
      refine VAny.frz (id := 5) (g.terms.map encS) rfl ?_
      refine VAny.movesI (is := [7]) (by kernel_rfl) (by simp) rfl (all1 ?_)
      ·refine VMv.append (zs := g.names.map encS) rfl rfl rfl rfl (by rfl) (by decide) rfl (.arr rfl) rfl rfl (.sl) (by simp only [List.length_append, List.length_cons, List.length_nil, List.length_map]; unfold most; omega) (by simp only [List.length_append, List.length_cons, List.length_nil, List.length_map]; unfold most; omega) rfl ( by simp) ?_
       refine VAny.frz (id := 6) (g.names.map encS) rfl ?_
       refine VAny.pureI (i := 8) rfl rfl (by kernel_rfl) rfl (VPure.buildC rfl (by kernel_rfl) rfl (by rfl)) ?_
       refine VAny.movesI (is := [10]) (by kernel_rfl) (by simp) rfl (all1 ?_)
       ·refine VMv.store rfl rfl rfl (by rfl) rfl rfl rfl rfl rfl rfl (leR (by rfl)) rfl ?_
        refine VAny.done ?_
        (refine Less.mk (l := [0, 1, 2]) hcx ?ss ?hh rfl (by decide) rfl rfl; (case ss => repeat (first | exact SubS.nil | refine SubS.cons rfl rfl ?_ | refine SubS.cons (ciI (by omega)) rfl ?_ | refine SubS.cons (ciB (by assumption)) rfl ?_)); (case hh => repeat (first | exact SubH.nil | refine SubH.cons rfl rfl rfl ?_)))
   ·refine VMv.lit (rows := []) rfl rfl rfl rfl (by kernel_rfl) (by rfl) (by decide) (by decide) rfl (by rfl) (by rfl) (by rfl) (by rfl) ?_
    refine VAny.movesI (is := [0]) (by kernel_rfl) (by simp) rfl (all1 ?_)
    ·refine VMv.lit (rows := []) rfl rfl rfl rfl (by kernel_rfl) (by rfl) (by decide) (by decide) rfl (by rfl) (by rfl) (by rfl) (by rfl) ?_
     refine VAny.movesI (is := [3]) (by kernel_rfl) (by simp) rfl (all1 ?_)
     ·refine VMv.append (zs := g.terms.map encS) rfl rfl rfl rfl (by rfl) (by decide) rfl (.arr rfl) rfl rfl (.sl) (by simp only [List.length_append, List.length_cons, List.length_nil, List.length_map]; unfold most; omega) (by simp only [List.length_append, List.length_cons, List.length_nil, List.length_map]; unfold most; omega) rfl ( by simp) ?_
      refine VAny.frz (id := 5) (g.terms.map encS) rfl ?_
      refine VAny.movesI (is := [7]) (by kernel_rfl) (by simp) rfl (all1 ?_)
      ·refine VMv.append (zs := g.names.map encS) rfl rfl rfl rfl (by rfl) (by decide) rfl (.arr rfl) rfl rfl (.sl) (by simp only [List.length_append, List.length_cons, List.length_nil, List.length_map]; unfold most; omega) (by simp only [List.length_append, List.length_cons, List.length_nil, List.length_map]; unfold most; omega) rfl ( by simp) ?_
       refine VAny.frz (id := 6) (g.names.map encS) rfl ?_
       refine VAny.pureI (i := 8) rfl rfl (by kernel_rfl) rfl (VPure.buildC rfl (by kernel_rfl) rfl (by rfl)) ?_
       refine VAny.movesI (is := [10]) (by kernel_rfl) (by simp) rfl (all1 ?_)
       ·refine VMv.store rfl rfl rfl (by rfl) rfl rfl rfl rfl rfl rfl (leR (by rfl)) rfl ?_
        refine VAny.done ?_
        (refine Less.mk (l := [0, 1, 2]) hcx ?ss ?hh rfl (by decide) rfl rfl; (case ss => repeat (first | exact SubS.nil | refine SubS.cons rfl rfl ?_ | refine SubS.cons (ciI (by omega)) rfl ?_ | refine SubS.cons (ciB (by assumption)) rfl ?_)); (case hh => repeat (first | exact SubH.nil | refine SubH.cons rfl rfl rfl ?_)))
 (repeat (first | ((with_reducible refine VOps.same ?_); (first | (refine VOps.nil ?_; try dsimp only [VThen, VBlock]) | refine VOps.vP (VPure.assign rfl rfl) ?_)) | refine VCode.seq ?_ | refine VCode.region rfl ?_ | refine VCode.block ?_))
 refine VCode.nilCell (id := 2) 2 46 2 rfl rfl rfl rfl ?_
 refine VCode.loop (fun m st => ∃ k : Nat, k ≤ g.rules.length ∧ m = g.rules.length - k ∧ st = ⟨[(4, .val (.int .i64 (k : Int))), (1, .ptr 0 0), (2, .ptr 1 0), (3, .ptr 2 0)], [(0, gO g), (1, .cells 25 [.val (.slice none 0 0), .val (.slice none 0 0), .val (.slice none 0 0)]), (2, .cells 25 [.sl 1 (g.terms.map encS), .sl 1 (g.names.map encS), .ref 3]), (3, .arr 46 2 ((g.rules.take k).map encR))], 4⟩) g.rules.length ?_ ?_
 ·(refine Less.mk (l := [0, 1, 2, 3]) hcx ?ss ?hh rfl (by decide) rfl ⟨0, by omega, by omega, rfl⟩; (case ss => repeat (first | exact SubS.nil | refine SubS.cons rfl rfl ?_ | refine SubS.cons (ciI (by omega)) rfl ?_ | refine SubS.cons (ciB (by assumption)) rfl ?_)); (case hh => repeat (first | exact SubH.nil | refine SubH.cons rfl rfl rfl ?_)))
 rintro m st ⟨k, hk, rfl, rfl⟩
 cases hq : g.rules[k]? with
 | some r =>
  have hlt : k < g.rules.length := (List.getElem?_eq_some_iff.1 hq).1
  have hrr := hg.rights r (List.mem_of_getElem? hq)
  have htl : (g.rules.take k).length ≤ 4000 := by rw [List.length_take]; omega
  (repeat (first | ((with_reducible refine VOps.same ?_); (first | (refine VOps.nil ?_; try dsimp only [VThen, VBlock]) | refine VOps.vP (VPure.move rfl rfl) ?_ | refine VOps.vP (VPure.len_map TI.und' rfl rfl) ?_ | refine VOps.vP (VPure.field_ptr rfl rfl rfl) ?_ | refine VOps.vV (VLoad.box1 rfl rfl rfl rfl (by rfl) (by decide)) ?_ | refine VOps.vP (VPure.lss rfl rfl rfl) ?_)) | refine VCode.seq ?_ | refine VCode.region rfl ?_))
  refine VCode.cond_t rfl (decide_eq_true (by omega)) ?_
  (repeat (first | refine VCode.seq ?_ | refine VCode.block ?_ | refine VCode.skip ?_))
  refine VCode.inTo ⟨[(4, .val (.int .i64 (k : Int))), (1, .ptr 0 0), (2, .ptr 1 0), (3, .ptr 2 0)], [(0, gO g), (1, .cells 25 [.val (.slice none 0 0), .val (.slice none 0 0), .val (.slice none 0 0)]), (2, .cells 25 [.sl 1 (g.terms.map encS), .sl 1 (g.names.map encS), .ref 3]), (3, .arr 46 2 ((g.rules.take (k + 1)).map encR))], 4⟩ ?_ ?_
  ·refine VCode.drawAny [2, 3, 4, 5, 6, 7] (by kernel_rfl) rfl ?_
   refine VAny.pureI (i := 0) rfl rfl (by kernel_rfl) rfl (VPure.field_ptr rfl rfl rfl) ?_
   refine VAny.pureI (i := 2) rfl rfl (by kernel_rfl) rfl (VPure.field_ptr rfl rfl rfl) ?_
   refine VAny.loadI (i := 3) rfl rfl (by kernel_rfl) rfl (VLoad.box1 rfl rfl rfl rfl (by rfl) (by decide)) ?_
   refine VAny.pureI (i := 4) rfl rfl (by kernel_rfl) rfl (VPure.move rfl rfl) ?_
   refine VAny.pureI (i := 5) rfl rfl (by kernel_rfl) rfl (VPure.idx_map rfl rfl rfl (by assumption)) ?_
   refine VAny.pureI (i := 6) rfl rfl (by kernel_rfl) rfl (VPure.field_el rfl rfl) ?_
   refine VAny.loadI (i := 7) rfl rfl (by kernel_rfl) rfl (VLoad.el1 rfl rfl rfl (by rfl)) ?_
   refine VAny.pureI (i := 9) rfl rfl (by kernel_rfl) rfl (VPure.field_ptr rfl rfl rfl) ?_
   refine VAny.loadI (i := 10) rfl rfl (by kernel_rfl) rfl (VLoad.box1 rfl rfl rfl rfl (by rfl) (by decide)) ?_
   refine VAny.pureI (i := 11) rfl rfl (by kernel_rfl) rfl (VPure.move rfl rfl) ?_
   refine VAny.pureI (i := 12) rfl rfl (by kernel_rfl) rfl (VPure.idx_map rfl rfl rfl (by assumption)) ?_
   refine VAny.pureI (i := 13) rfl rfl (by kernel_rfl) rfl (VPure.field_el rfl rfl) ?_
   refine VAny.loadI (i := 14) rfl rfl (by kernel_rfl) rfl (VLoad.el1 rfl rfl rfl (by rfl)) ?_
   refine VAny.movesI (is := [1, 8]) (by kernel_rfl) (by simp) rfl (allC ?_ (all1 ?_))
   ·refine VMv.load rfl rfl rfl (VLoad.box1 rfl rfl rfl rfl (by rfl) (by decide)) ?_
    refine VAny.movesI (is := [8]) (by kernel_rfl) (by simp) rfl (all1 ?_)
    ·refine VMv.lit (rows := []) rfl rfl rfl rfl (by kernel_rfl) (by rfl) (by decide) (by decide) rfl (by rfl) (by rfl) (by rfl) (by rfl) ?_
     refine VAny.movesI (is := [15]) (by kernel_rfl) (by simp) rfl (all1 ?_)
     ·refine VMv.append (zs := r.right.map encI) rfl rfl rfl rfl (by rfl) (by decide) rfl (.arr rfl) rfl rfl (.sl) (by simp only [List.length_append, List.length_cons, List.length_nil, List.length_map]; unfold most; omega) (by simp only [List.length_append, List.length_cons, List.length_nil, List.length_map]; unfold most; omega) rfl ( by simp) ?_
      refine VAny.frz (id := 5) (r.right.map encI) rfl ?_
      refine VAny.pureI (i := 16) rfl rfl (by kernel_rfl) rfl (VPure.buildC rfl (by kernel_rfl) rfl (by rfl)) ?_
      refine VAny.movesI (is := [17]) (by kernel_rfl) (by simp) rfl (all1 ?_)
      ·refine VMv.one rfl rfl rfl rfl (by rfl) (by decide) (by decide) rfl (by rfl) (by rfl) ?_
       refine VAny.movesI (is := [18]) (by kernel_rfl) (by simp) rfl (all1 ?_)
       ·refine VMv.append (zs := (g.rules.take (k + 1)).map encR) rfl rfl rfl rfl (by rfl) (by decide) rfl (.arr rfl) rfl rfl (.arr rfl) (by simp only [List.length_append, List.length_cons, List.length_nil, List.length_map]; unfold most; omega) (by simp only [List.length_append, List.length_cons, List.length_nil, List.length_map]; unfold most; omega) rfl ( by rw [List.take_add_one, hq, List.map_append]; rfl) ?_
        refine VAny.pureI (i := 19) rfl rfl (by kernel_rfl) rfl (VPure.field_ptr rfl rfl rfl) ?_
        refine VAny.movesI (is := [20]) (by kernel_rfl) (by simp) rfl (all1 ?_)
        ·refine VMv.store rfl rfl rfl (by rfl) rfl rfl rfl rfl rfl rfl (leR (by rfl)) rfl ?_
         refine VAny.done ?_
         (refine Less.mk (l := [0, 1, 2, 7]) hcx ?ss ?hh rfl (by decide) rfl rfl; (case ss => repeat (first | exact SubS.nil | refine SubS.cons rfl rfl ?_ | refine SubS.cons (ciI (by omega)) rfl ?_ | refine SubS.cons (ciB (by assumption)) rfl ?_)); (case hh => repeat (first | exact SubH.nil | refine SubH.cons rfl rfl rfl ?_)))
   ·refine VMv.lit (rows := []) rfl rfl rfl rfl (by kernel_rfl) (by rfl) (by decide) (by decide) rfl (by rfl) (by rfl) (by rfl) (by rfl) ?_
    refine VAny.movesI (is := [1, 15]) (by kernel_rfl) (by simp) rfl (allC ?_ (all1 ?_))
    ·refine VMv.load rfl rfl rfl (VLoad.box1 rfl rfl rfl rfl (by rfl) (by decide)) ?_
     refine VAny.movesI (is := [15]) (by kernel_rfl) (by simp) rfl (all1 ?_)
     ·refine VMv.append (zs := r.right.map encI) rfl rfl rfl rfl (by rfl) (by decide) rfl (.arr rfl) rfl rfl (.sl) (by simp only [List.length_append, List.length_cons, List.length_nil, List.length_map]; unfold most; omega) (by simp only [List.length_append, List.length_cons, List.length_nil, List.length_map]; unfold most; omega) rfl ( by simp) ?_
      refine VAny.frz (id := 5) (r.right.map encI) rfl ?_
      refine VAny.pureI (i := 16) rfl rfl (by kernel_rfl) rfl (VPure.buildC rfl (by kernel_rfl) rfl (by rfl)) ?_
      refine VAny.movesI (is := [17]) (by kernel_rfl) (by simp) rfl (all1 ?_)
      ·refine VMv.one rfl rfl rfl rfl (by rfl) (by decide) (by decide) rfl (by rfl) (by rfl) ?_
       refine VAny.movesI (is := [18]) (by kernel_rfl) (by simp) rfl (all1 ?_)
       ·refine VMv.append (zs := (g.rules.take (k + 1)).map encR) rfl rfl rfl rfl (by rfl) (by decide) rfl (.arr rfl) rfl rfl (.arr rfl) (by simp only [List.length_append, List.length_cons, List.length_nil, List.length_map]; unfold most; omega) (by simp only [List.length_append, List.length_cons, List.length_nil, List.length_map]; unfold most; omega) rfl ( by rw [List.take_add_one, hq, List.map_append]; rfl) ?_
        refine VAny.pureI (i := 19) rfl rfl (by kernel_rfl) rfl (VPure.field_ptr rfl rfl rfl) ?_
        refine VAny.movesI (is := [20]) (by kernel_rfl) (by simp) rfl (all1 ?_)
        ·refine VMv.store rfl rfl rfl (by rfl) rfl rfl rfl rfl rfl rfl (leR (by rfl)) rfl ?_
         refine VAny.done ?_
         (refine Less.mk (l := [0, 1, 2, 7]) hcx ?ss ?hh rfl (by decide) rfl rfl; (case ss => repeat (first | exact SubS.nil | refine SubS.cons rfl rfl ?_ | refine SubS.cons (ciI (by omega)) rfl ?_ | refine SubS.cons (ciB (by assumption)) rfl ?_)); (case hh => repeat (first | exact SubH.nil | refine SubH.cons rfl rfl rfl ?_)))
    ·refine VMv.append (zs := r.right.map encI) rfl rfl rfl rfl (by rfl) (by decide) rfl (.arr rfl) rfl rfl (.sl) (by simp only [List.length_append, List.length_cons, List.length_nil, List.length_map]; unfold most; omega) (by simp only [List.length_append, List.length_cons, List.length_nil, List.length_map]; unfold most; omega) rfl ( by simp) ?_
     refine VAny.frz (id := 5) (r.right.map encI) rfl ?_
     refine VAny.pureI (i := 16) rfl rfl (by kernel_rfl) rfl (VPure.buildC rfl (by kernel_rfl) rfl (by rfl)) ?_
     refine VAny.movesI (is := [1, 17]) (by kernel_rfl) (by simp) rfl (allC ?_ (all1 ?_))
     ·refine VMv.load rfl rfl rfl (VLoad.box1 rfl rfl rfl rfl (by rfl) (by decide)) ?_
      refine VAny.movesI (is := [17]) (by kernel_rfl) (by simp) rfl (all1 ?_)
      ·refine VMv.one rfl rfl rfl rfl (by rfl) (by decide) (by decide) rfl (by rfl) (by rfl) ?_
       refine VAny.movesI (is := [18]) (by kernel_rfl) (by simp) rfl (all1 ?_)
       ·refine VMv.append (zs := (g.rules.take (k + 1)).map encR) rfl rfl rfl rfl (by rfl) (by decide) rfl (.arr rfl) rfl rfl (.arr rfl) (by simp only [List.length_append, List.length_cons, List.length_nil, List.length_map]; unfold most; omega) (by simp only [List.length_append, List.length_cons, List.length_nil, List.length_map]; unfold most; omega) rfl ( by rw [List.take_add_one, hq, List.map_append]; rfl) ?_
        refine VAny.pureI (i := 19) rfl rfl (by kernel_rfl) rfl (VPure.field_ptr rfl rfl rfl) ?_
        refine VAny.movesI (is := [20]) (by kernel_rfl) (by simp) rfl (all1 ?_)
        ·refine VMv.store rfl rfl rfl (by rfl) rfl rfl rfl rfl rfl rfl (leR (by rfl)) rfl ?_
         refine VAny.done ?_
         (refine Less.mk (l := [0, 1, 2, 7]) hcx ?ss ?hh rfl (by decide) rfl rfl; (case ss => repeat (first | exact SubS.nil | refine SubS.cons rfl rfl ?_ | refine SubS.cons (ciI (by omega)) rfl ?_ | refine SubS.cons (ciB (by assumption)) rfl ?_)); (case hh => repeat (first | exact SubH.nil | refine SubH.cons rfl rfl rfl ?_)))
     ·refine VMv.one rfl rfl rfl rfl (by rfl) (by decide) (by decide) rfl (by rfl) (by rfl) ?_
      refine VAny.movesI (is := [1]) (by kernel_rfl) (by simp) rfl (all1 ?_)
      ·refine VMv.load rfl rfl rfl (VLoad.box1 rfl rfl rfl rfl (by rfl) (by decide)) ?_
       refine VAny.movesI (is := [18]) (by kernel_rfl) (by simp) rfl (all1 ?_)
       ·refine VMv.append (zs := (g.rules.take (k + 1)).map encR) rfl rfl rfl rfl (by rfl) (by decide) rfl (.arr rfl) rfl rfl (.arr rfl) (by simp only [List.length_append, List.length_cons, List.length_nil, List.length_map]; unfold most; omega) (by simp only [List.length_append, List.length_cons, List.length_nil, List.length_map]; unfold most; omega) rfl ( by rw [List.take_add_one, hq, List.map_append]; rfl) ?_
        refine VAny.pureI (i := 19) rfl rfl (by kernel_rfl) rfl (VPure.field_ptr rfl rfl rfl) ?_
        refine VAny.movesI (is := [20]) (by kernel_rfl) (by simp) rfl (all1 ?_)
        ·refine VMv.store rfl rfl rfl (by rfl) rfl rfl rfl rfl rfl rfl (leR (by rfl)) rfl ?_
         refine VAny.done ?_
         (refine Less.mk (l := [0, 1, 2, 7]) hcx ?ss ?hh rfl (by decide) rfl rfl; (case ss => repeat (first | exact SubS.nil | refine SubS.cons rfl rfl ?_ | refine SubS.cons (ciI (by omega)) rfl ?_ | refine SubS.cons (ciB (by assumption)) rfl ?_)); (case hh => repeat (first | exact SubH.nil | refine SubH.cons rfl rfl rfl ?_)))
  (repeat (first | ((with_reducible refine VOps.same ?_); (first | (refine VOps.nil ?_; try dsimp only [VThen, VBlock]) | refine VOps.vP (VPure.move rfl rfl) ?_ | refine VOps.vP (VPure.assign rfl rfl) ?_ | refine VOps.vP (VPure.addK rfl rfl rfl (by omega)) ?_)) | refine VCode.region rfl ?_))
  (refine Less.mk (l := [0, 1, 2, 3]) hcx ?ss ?hh rfl (by decide) rfl ⟨_, ?_, k + 1, by omega, rfl, rfl⟩; (case ss => repeat (first | exact SubS.nil | refine SubS.cons rfl rfl ?_ | refine SubS.cons (ciI (by omega)) rfl ?_ | refine SubS.cons (ciB (by assumption)) rfl ?_)); (case hh => repeat (first | exact SubH.nil | refine SubH.cons rfl rfl rfl ?_)))
  omega
 | none =>
  have hge : g.rules.length ≤ k := List.getElem?_eq_none_iff.1 hq
  rw [List.take_of_length_le hge]
  (repeat (first | ((with_reducible refine VOps.same ?_); (first | (refine VOps.nil ?_; try dsimp only [VThen, VBlock]) | refine VOps.vP (VPure.move rfl rfl) ?_ | refine VOps.vP (VPure.len_map TI.und' rfl rfl) ?_ | refine VOps.vP (VPure.field_ptr rfl rfl rfl) ?_ | refine VOps.vV (VLoad.box1 rfl rfl rfl rfl (by rfl) (by decide)) ?_ | refine VOps.vP (VPure.lss rfl rfl rfl) ?_)) | refine VCode.seq ?_ | refine VCode.region rfl ?_))
  refine VCode.cond_f rfl (decide_eq_false (by omega)) ?_
  (repeat (first | ((with_reducible refine VOps.same ?_); (first | (refine VOps.nil ?_; try dsimp only [VThen, VBlock]) | refine VOps.vV (VLoad.boxA rfl rfl rfl (by rfl) (leR (by rfl)) (by decide)) ?_ | refine VOps.store rfl rfl (by kernel_rfl) rfl rfl rfl rfl rfl rfl (leR (by rfl)) rfl ?_)) | refine VCode.seq ?_ | refine VCode.region rfl ?_ | refine VCode.exit ?_))
  refine VCode.ret ?_
  (show Less cx _ _; refine Less.mkx (l := [3, 1]) (st' := ⟨[(2, .ptr 1 0)], [(0, .arr 46 2 (g.rules.map encR)), (1, .cells 25 [.sl 1 (g.terms.map encS), .sl 1 (g.names.map encS), .ref 0])], 2⟩) 0 hcx (Nat.le_of_ble_eq_true rfl) (by decide) ?ss ?hh rfl (by decide) rfl ⟨_, (.cellA rfl rfl rfl (leR (by rfl)) .nil), rfl, rfl, rfl⟩; (case ss => repeat (first | exact SubS.nil | refine SubS.cons rfl rfl ?_ | refine SubS.cons (ciI (by omega)) rfl ?_ | refine SubS.cons (ciB (by assumption)) rfl ?_)); (case hh => repeat (first | exact SubH.nil | refine SubH.cons rfl rfl rfl ?_)))
end Go.Proofs.Ytfjfbapiheehaaa.V
end
section
set_option linter.unusedVariables false
set_option linter.unusedSimpArgs false
namespace Go.Proofs.Ytfjfbapiheehaaa.V
open Go Go.RowKit Go.Proofs.Ytfjfbapiheehaaa.DG
section
variable {P : Program} {n : Nat} {cx : Cx} {st : St} {o : Oper} {t t' : TypeId} {x y : Operand}
theorem VPure.or4 {a b : Nat} (ho : o.op = .binOp .or t x y t') (hx : ev st.s x = some (.val (.int .i64 (a : Int)))) (hy : ev st.s y = some (.val (.int .i64 (b : Int)))) (ha : a < 4) (hb : b < 4) : VPure P n cx o st (.val (.int .i64 ((a ||| b : Nat) : Int))) := .bin ho hx hy (bin_int fun w => by
 rcases a with _ | _ | _ | _ | a <;> rcases b with _ | _ | _ | _ | b <;> first | rfl | omega)
theorem VPure.and4 {a b : Nat} (ho : o.op = .binOp .and t x y t') (hx : ev st.s x = some (.val (.int .i64 (a : Int)))) (hy : ev st.s y = some (.val (.int .i64 (b : Int)))) (ha : a < 4) (hb : b < 4) : VPure P n cx o st (.val (.int .i64 ((a &&& b : Nat) : Int))) := .bin ho hx hy (bin_int fun w => by
 rcases a with _ | _ | _ | _ | a <;> rcases b with _ | _ | _ | _ | b <;> first | rfl | omega)
end
def rowW (xs : Tab) : List N := [.own 71 4 (xs.map encL)]
def rowD : List N := [.dat (.val (.slice none 0 0))]
def rowsI (n i : Nat) : List (List N) := List.replicate i (rowW (rowF n)) ++ List.replicate (n - i) rowD
theorem rowsI_len {n i : Nat} (h : i ≤ n) : (rowsI n i).length = n := by unfold rowsI; simp; omega
theorem rowsI_get {n i : Nat} (h : i < n) : ((rowsI n i)[i]?).bind (·[0]?) = some (.dat (.val (.slice none 0 0))) := by
 unfold rowsI
 rw [List.getElem?_append_right (by simp), List.length_replicate, Nat.sub_self, List.getElem?_replicate, if_pos (by omega)]; rfl
theorem rowsI_put {n i : Nat} (h : i < n) : putN (rowsI n i) i 0 (.own 71 4 ((rowF n).map encL)) = rowsI n (i + 1) := by
 unfold putN rowsI
 have e : n - i = (n - (i + 1)) + 1 := by omega
 rw [e, List.replicate_succ, List.replicate_succ' (n := i)]
 apply List.ext_getElem?
 intro k
 rw [List.getElem?_modify, List.append_assoc]
 rcases Nat.lt_trichotomy k i with hk | hk | hk
 ·rw [List.getElem?_append_left (by simp; omega), List.getElem?_append_left (by simp; omega)]
  have hne : ¬ i = k := by omega
  simp [hne]
 ·subst hk
  rw [List.getElem?_append_right (by simp), List.getElem?_append_right (by simp)]
  simp [rowW, rowD]
 ·rw [List.getElem?_append_right (by simp; omega), List.getElem?_append_right (by simp; omega)]
  have hne : ¬ i = k := by omega
  simp only [hne, if_false, List.length_replicate]
  have e2 : k - i = (k - i - 1) + 1 := by omega
  rw [e2, List.getElem?_cons_succ, List.singleton_append, List.getElem?_cons_succ]
  simp
theorem rowsI_all (n : Nat) : rowsI n n = (List.replicate n (rowF n)).map rowW := by unfold rowsI; simp
abbrev WO (W : List Tab) (hole : Option (Nat × Nat × Nat)) : O := .nest 72 1 (W.map rowW) hole
theorem first_step {L : List (Nat × Pl)} {n k : Nat} {W : List Tab} {s : Nat × Pl} {xs : Tab} (hW : OkW L n W) (hq : L[k]? = some s) (hx : W[s.1]? = some xs) (h1 : s.1 < n) (h2 : s.2.1 < n)
  (hin : ∀ (a : Nat) (xs : Tab), W[a]? = some xs → ∀ t ∈ L.take k, t.1 = a → cellX xs t.2.1 (kOf t) = true) :
  ∀ (a : Nat) (ys : Tab), (W.set s.1 (setX xs s.2.1 (kOf s)))[a]? = some ys → ∀ t ∈ L.take (k + 1), t.1 = a → cellX ys t.2.1 (kOf t) = true := by
 intro a ys hy t ht e
 rw [List.getElem?_set] at hy
 rw [List.take_add_one, hq] at ht
 by_cases ha : s.1 = a
 ·rw [if_pos ha, if_pos (by rw [hW.len]; exact h1)] at hy
  obtain rfl := Option.some.inj hy
  rw [cellX_set (hW.row _ _ hx).1 h2 (kOf_lt s)]
  by_cases he : t.2.1 = s.2.1 ∧ kOf t = kOf s
  ·rw [if_pos he]
  ·rw [if_neg he]
   rcases List.mem_append.1 ht with ht | ht
   ·exact hin a xs (by rw [← ha]; exact hx) t ht e
   ·have : t = s := by simpa using ht
    subst this
    exact absurd ⟨rfl, rfl⟩ he
 ·rw [if_neg ha] at hy
  rcases List.mem_append.1 ht with ht | ht
  ·exact hin a ys hy t ht e
  ·have : t = s := by simpa using ht
   subst this
   exact absurd e ha
structure RowI (L : List (Nat × Pl)) (n a : Nat) (x0 xs : Tab) (c1 c : Bool) : Prop where
 ok : OkX n xs
 snd : SoundX L a xs
 ini : InitX L a xs
 le : fX xs ≤ fX x0
 lt : c = true → c1 = true ∨ fX xs < fX x0
 no : c = false → c1 = false
theorem RowI.step {L : List (Nat × Pl)} {n a k : Nat} {x0 xs : Tab} {c1 c : Bool} {s : Nat × Pl} (h : RowI L n a x0 xs c1 c) (hs : s ∈ L) (h2 : s.2.1 < n) (hk : k < 4) (e1 : cellX xs s.1 k = true) (e2 : cellX xs s.2.1 (k ||| kOf s) = false) : RowI L n a x0 (setX xs s.2.1 (k ||| kOf s)) c1 true := by
 have hm := or_lt hk (kOf_lt s)
 have hf := fX_set h.ok h2 hm e2
 have hle := h.le
 exact ⟨h.ok.set h2, h.snd.set h.ok hs h2 hk e1, h.ini.set h.ok h2 hm, by omega, fun _ => .inr (by omega), fun h => by cases h⟩
theorem rowW_out (W : List Tab) : ((W.map rowW).map fun r => r.map N.toD) = W.map fun xs => [D.sl 4 (xs.map encL)] := by
 rw [List.map_map]; rfl
set_option maxRecDepth 20000 in
set_option maxHeartbeats 16000000 in
theorem ways_v (g : Gr) (w : List Spot) (hg : Sized g) (hw : w.length ≤ 1000000) (hG : GoodG g) : VCalls Try.prog 49 [gV g, sV w] [] 0 (Gives (.sl 1 ((wayW (stepsOf g w) g.names.length).map fun xs => [D.sl 4 (xs.map encL)]))) := by
 have ht := hg.terms
 have hn := hg.names
 have hsl := spots_len g
 refine VCalls.enterD (n := 195) Try.func49 rfl rfl (by simp) rfl (fun cx hcx => ?_)
 (repeat (first | ((with_reducible refine VOps.same ?_); (first | (refine VOps.nil ?_; try dsimp only [VThen, VBlock]) | refine VOps.vP (VPure.assign rfl rfl) ?_ | refine VOps.vV (VLoad.boxA rfl rfl rfl (by rfl) (leR (by rfl)) (by decide)) ?_ | refine VOps.box rfl rfl (by kernel_rfl) rfl rfl rfl rfl ?_)) | refine VCode.seq ?_ | refine VCode.region rfl ?_))
 refine VOps.pure rfl Try.func26 rfl (by kernel_rfl) rfl rfl rfl rfl rfl rfl rfl (rgood_v g hg) ?_
 (repeat (first | ((with_reducible refine VOps.same ?_); (first | (refine VOps.nil ?_; try dsimp only [VThen, VBlock]) | refine VOps.vP (VPure.not rfl rfl) ?_))))
 refine VCode.cond_f rfl (by rw [decide_eq_true hG]; rfl) ?_
 (repeat (first | ((with_reducible refine VOps.same ?_); (first | (refine VOps.nil ?_; try dsimp only [VThen, VBlock]) | refine VOps.vP (VPure.move rfl rfl) ?_ | refine VOps.vP (VPure.assign rfl rfl) ?_ | refine VOps.vP (VPure.len_map TI.und' rfl rfl) ?_ | refine VOps.vP (VPure.field_ptr rfl rfl rfl) ?_ | refine VOps.vV (VLoad.box1 rfl rfl rfl rfl (by rfl) (by decide)) ?_)) | refine VCode.seq ?_ | refine VCode.region rfl ?_ | refine VCode.draw [] rfl ?_ | refine VCode.skip ?_))
 (refine VOps.make (f := (fun _ : Unit => [D.val (.slice none 0 0)])) (a := ()) rfl rfl (by kernel_rfl) rfl (by kernel_rfl) (by rfl) (by decide) rfl rfl ?b1 ?b2 (by rfl) ?_; (case b1 => unfold most; (first | omega | (simp only [List.length_map, List.length_append, List.length_cons, List.length_nil] at *; omega) | (simp; omega))); (case b2 => unfold most; (first | omega | (simp only [List.length_map, List.length_append, List.length_cons, List.length_nil] at *; omega) | (simp; omega))))
 (repeat (first | ((with_reducible refine VOps.same ?_); (first | (refine VOps.nil ?_; try dsimp only [VThen, VBlock]) | refine VOps.vP (VPure.assign rfl rfl) ?_)) | refine VCode.seq ?_ | refine VCode.region rfl ?_ | refine VCode.block ?_))
 refine VCode.turn (id := 1) (rows := rowsI g.names.length 0) (fun _ => rowD) rfl ?h1 ?h2 ?_
 case h1 =>
  intro row hrow
  rw [List.map_replicate] at hrow
  rw [List.eq_of_mem_replicate hrow]
  exact .cons (.dat _) .nil
 case h2 => unfold rowsI; simp
 refine VCode.loop (fun m st => ∃ i : Nat, i ≤ g.names.length ∧ m = g.names.length - i ∧ st = ⟨[(8, .val (.int .i64 (i : Int))), (7, .ref 1), (6, .val (.int .i64 (g.names.length : Int))), (5, .val (.int .i64 (g.terms.length : Int))), (1, sV w), (2, .ptr 0 0)], [(0, gO g), (1, .nest 72 1 (rowsI g.names.length i) none)], 2⟩) g.names.length ?_ ?_
 ·(refine Less.mk (l := [0, 2]) hcx ?ss ?hh rfl (by decide) rfl ⟨0, by omega, by omega, rfl⟩; (case ss => repeat (first | exact SubS.nil | refine SubS.cons rfl rfl ?_ | refine SubS.cons (ciI (by omega)) rfl ?_ | refine SubS.cons (ciB (by assumption)) rfl ?_)); (case hh => repeat (first | exact SubH.nil | refine SubH.cons rfl rfl rfl ?_)))
 rintro m st ⟨i, hi, rfl, rfl⟩
 by_cases hil : i < g.names.length
 ·(repeat (first | ((with_reducible refine VOps.same ?_); (first | (refine VOps.nil ?_; try dsimp only [VThen, VBlock]) | refine VOps.vP (VPure.move rfl rfl) ?_ | refine VOps.vP (VPure.lss rfl rfl rfl) ?_)) | refine VCode.seq ?_ | refine VCode.region rfl ?_))
  refine VCode.cond_t rfl (decide_eq_true (by omega)) ?_
  (repeat (first | ((with_reducible refine VOps.same ?_); (first | refine VOps.vP (VPure.move rfl rfl) ?_)) | refine VCode.seq ?_ | refine VCode.region rfl ?_ | refine VCode.block ?_ | refine VCode.skip ?_))
  (refine VOps.make (f := encL) (a := [false, false, false, false]) rfl rfl (by kernel_rfl) rfl (by kernel_rfl) (by rfl) (by decide) rfl rfl ?b1 ?b2 (by rfl) ?_; (case b1 => unfold most; (first | omega | (simp only [List.length_map, List.length_append, List.length_cons, List.length_nil] at *; omega) | (simp; omega))); (case b2 => unfold most; (first | omega | (simp only [List.length_map, List.length_append, List.length_cons, List.length_nil] at *; omega) | (simp; omega))))
  refine VOps.vP (VPure.idx_nest rfl rfl rfl rfl (by omega) (by rw [rowsI_len hi]; omega)) ?_
  refine VOps.store_nest (k := i) (j := 0) rfl rfl (by kernel_rfl) rfl rfl rfl rfl (by simp) ⟨by rw [rowsI_len hi]; omega, by decide⟩ (.inr ⟨rfl, _, rowsI_get hil⟩) ?_
  refine VOps.unfocus (id := 1) (id' := 2) (i := i) (j := 0) (ys := (rowF g.names.length).map encL) rfl rfl ⟨by rw [rowsI_len hi]; omega, by decide⟩ (rowsI_put hil) ?_
  (repeat (first | ((with_reducible refine VOps.same ?_); (first | (refine VOps.nil ?_; try dsimp only [VThen, VBlock]) | refine VOps.vP (VPure.move rfl rfl) ?_ | refine VOps.vP (VPure.assign rfl rfl) ?_ | refine VOps.vP (VPure.addK rfl rfl rfl (by omega)) ?_)) | refine VCode.region rfl ?_))
  (refine Less.mk (l := [0, 3]) hcx ?ss ?hh rfl (by decide) rfl ⟨_, ?_, i + 1, by omega, rfl, rfl⟩; (case ss => repeat (first | exact SubS.nil | refine SubS.cons rfl rfl ?_ | refine SubS.cons (ciI (by omega)) rfl ?_ | refine SubS.cons (ciB (by assumption)) rfl ?_)); (case hh => repeat (first | exact SubH.nil | refine SubH.cons rfl rfl rfl ?_)))
  omega
 rw [show i = g.names.length by omega, rowsI_all]
 clear hil hi
 (repeat (first | ((with_reducible refine VOps.same ?_); (first | (refine VOps.nil ?_; try dsimp only [VThen, VBlock]) | refine VOps.vP (VPure.move rfl rfl) ?_ | refine VOps.vP (VPure.lss rfl rfl rfl) ?_)) | refine VCode.seq ?_ | refine VCode.region rfl ?_))
 refine VCode.cond_f rfl (decide_eq_false (by omega)) ?_
 (repeat (first | ((with_reducible refine VOps.same ?_); (first | (refine VOps.nil ?_; try dsimp only [VThen, VBlock]) | refine VOps.vP (VPure.assign rfl rfl) ?_ | refine VOps.vV (VLoad.boxA rfl rfl rfl (by rfl) (leR (by rfl)) (by decide)) ?_)) | refine VCode.seq ?_ | refine VCode.region rfl ?_ | refine VCode.exit ?_))
 refine VOps.gives rfl Try.func19 rfl (by kernel_rfl) rfl rfl rfl rfl rfl rfl rfl rfl (rspots_v g hg) ?_
 (repeat (first | ((with_reducible refine VOps.same ?_); (first | (refine VOps.nil ?_; try dsimp only [VThen, VBlock]) | refine VOps.vP (VPure.assign rfl rfl) ?_)) | refine VCode.seq ?_ | refine VCode.region rfl ?_ | refine VCode.block ?_))
 refine VCode.nilObj 9 97 3 rfl ?_
 refine VCode.loop (fun m st => ∃ (k : Nat) (out : List (Nat × Pl)), k ≤ (spots g).length ∧ m = (spots g).length - k ∧ out = (((spots g).take k).filter fun x => !isIn w x).map (stepOf g) ∧ st = ⟨[(11, .val (.int .i64 (k : Int))), (10, sV (spots g)), (9, .ref 2), (7, .ref 1), (6, .val (.int .i64 (g.names.length : Int))), (5, .val (.int .i64 (g.terms.length : Int))), (1, sV w), (2, .ptr 0 0)], [(0, gO g), (1, WO (List.replicate g.names.length (rowF g.names.length)) none), (2, .arr 97 3 (out.map encW))], 3⟩) (spots g).length ?_ ?_
 ·(refine Less.mk (l := [0, 1, 2]) hcx ?ss ?hh rfl (by decide) rfl ⟨0, [], by omega, by omega, rfl, rfl⟩; (case ss => repeat (first | exact SubS.nil | refine SubS.cons rfl rfl ?_ | refine SubS.cons (ciI (by omega)) rfl ?_ | refine SubS.cons (ciB (by assumption)) rfl ?_)); (case hh => repeat (first | exact SubH.nil | refine SubH.cons rfl rfl rfl ?_)))
 rintro m st ⟨k, out, hk, rfl, hout, rfl⟩
 have hol : out.length ≤ 480 := by
  have := List.length_filter_le (fun x => !isIn w x) ((spots g).take k)
  rw [List.length_take] at this
  rw [hout, List.length_map]; omega
 cases hq : (spots g)[k]? with
 | some x =>
  have hlt : k < (spots g).length := (List.getElem?_eq_some_iff.1 hq).1
  have hnx := congrArg (List.map (stepOf g)) (take_filter (p := fun x => !isIn w x) hq)
  rw [List.map_append, ← hout] at hnx
  obtain ⟨_, i1, j1, r1, s1, a1, b1, hsp⟩ := spot_at (List.mem_of_getElem? hq)
  have hr1 := hsp.hr
  have hs1 := hsp.hs
  have hl1 := hsp.hl
  have hy1 := hsp.hy
  have ha1 := hsp.ha
  have hb1 := hsp.hb
  have hr1l := (List.getElem?_eq_some_iff.1 hr1).1
  have hs1l := (List.getElem?_eq_some_iff.1 hs1).1
  have hrl := (hG.rules.2.2 i1 r1 hr1).2.2.1
  have hse0 : encW (stepOf g x) = [.val (.int .i64 (r1.left - (g.terms.length : Int))), .val (.int .i64 (s1 - (g.terms.length : Int))), .val (.int .i64 ((bitsK (decide (0 < (j1 : Int))) (decide ((j1 : Int) + 1 < (r1.right.length : Int))) : Nat) : Int))] := by
   have e1 : r1.left - (g.terms.length : Int) = (a1 : Int) := by omega
   have e2 : s1 - (g.terms.length : Int) = (b1 : Int) := by omega
   have e3 : rightLen g x = r1.right.length := by unfold rightLen; rw [hsp.hx]; simp only [Int.toNat_natCast, hr1]
   have e4 : decide ((j1 : Int) < (r1.right.length : Int) - 1) = decide ((j1 : Int) + 1 < (r1.right.length : Int)) := by rw [decide_eq_decide]; omega
   unfold encW kOf stepOf
   rw [hsp.he, e1, e2, e3, hsp.hx]
   simp only [e4]
  obtain rfl := hsp.hx
  (repeat (first | ((with_reducible refine VOps.same ?_); (first | (refine VOps.nil ?_; try dsimp only [VThen, VBlock]) | refine VOps.vP (VPure.move rfl rfl) ?_ | refine VOps.vP (VPure.len_map TI.und' rfl rfl) ?_ | refine VOps.vP (VPure.lss rfl rfl rfl) ?_)) | refine VCode.seq ?_ | refine VCode.region rfl ?_))
  refine VCode.cond_t rfl (decide_eq_true (by omega)) ?_
  (repeat (first | ((with_reducible refine VOps.same ?_); (first | refine VOps.vP (VPure.move rfl rfl) ?_ | refine VOps.vP (VPure.idx_map rfl rfl rfl (by assumption)) ?_ | refine VOps.vV (VLoad.elA rfl rfl (by rfl) (leR (by rfl))) ?_)) | refine VCode.seq ?_ | refine VCode.region rfl ?_ | refine VCode.block ?_ | refine VCode.skip ?_))
  refine VOps.pure rfl Try.func28 rfl (by kernel_rfl) rfl rfl rfl rfl rfl rfl rfl (has_v w ((i1 : Int), (j1 : Int)) hw) ?_
  (repeat (first | ((with_reducible refine VOps.same ?_); (first | (refine VOps.nil ?_; try dsimp only [VThen, VBlock])))))
  refine VCode.cond rfl (fun hb => ?_) (fun hb => ?_)
  ·rw [if_neg (by rw [hb]; simp), List.map_nil, List.append_nil] at hnx
   (repeat (first | ((with_reducible refine VOps.same ?_); (first | (refine VOps.nil ?_; try dsimp only [VThen, VBlock]) | refine VOps.vP (VPure.move rfl rfl) ?_ | refine VOps.vP (VPure.assign rfl rfl) ?_ | refine VOps.vP (VPure.addK rfl rfl rfl (by omega)) ?_)) | refine VCode.region rfl ?_ | refine VCode.exit ?_))
   (refine Less.mk (l := [0, 1, 2]) hcx ?ss ?hh rfl (by decide) rfl ⟨_, ?_, k + 1, out, by omega, rfl, hnx.symm, rfl⟩; (case ss => repeat (first | exact SubS.nil | refine SubS.cons rfl rfl ?_ | refine SubS.cons (ciI (by omega)) rfl ?_ | refine SubS.cons (ciB (by assumption)) rfl ?_)); (case hh => repeat (first | exact SubH.nil | refine SubH.cons rfl rfl rfl ?_)))
   omega
  ·rw [if_pos (by rw [hb]; rfl), List.map_cons, List.map_nil] at hnx
   (repeat (first | refine VCode.seq ?_ | refine VCode.skip ?_))
   refine VCode.draw [3] rfl ?_
   (repeat (first | ((with_reducible refine VOps.same ?_); (first | (refine VOps.nil ?_; try dsimp only [VThen, VBlock]) | refine VOps.vP (VPure.move rfl rfl) ?_ | refine VOps.vP (VPure.assign rfl rfl) ?_ | refine VOps.vP (VPure.idx_map rfl rfl rfl (by assumption)) ?_ | refine VOps.vP (VPure.field_el rfl rfl) ?_ | refine VOps.vP (VPure.field_ptr rfl rfl rfl) ?_ | refine VOps.vV (VLoad.el1 rfl rfl rfl (by rfl)) ?_ | refine VOps.vV (VLoad.box1 rfl rfl rfl rfl (by rfl) (by decide)) ?_ | refine VOps.vV (VLoad.elA rfl rfl (by rfl) (leR (by rfl))) ?_ | refine VOps.vP (VPure.gtr rfl rfl rfl) ?_ | refine VOps.alloc rfl rfl (by kernel_rfl) rfl (by kernel_rfl) rfl ?_ | refine VOps.store rfl rfl (by kernel_rfl) rfl rfl rfl rfl rfl rfl (leR (by rfl)) rfl ?_)) | refine VCode.seq ?_ | refine VCode.region rfl ?_))
   refine VCode.cond rfl (fun c1 => ?_) (fun c1 => ?_)
   ·(repeat (first | ((with_reducible refine VOps.same ?_); (first | refine VOps.vP (VPure.move rfl rfl) ?_)) | refine VCode.region rfl ?_))
    refine VOps.vP (VPure.or4 (a := 0) (b := 1) rfl rfl rfl (by decide) (by decide)) ?_
    (repeat (first | ((with_reducible refine VOps.same ?_); (first | (refine VOps.nil ?_; try dsimp only [VThen, VBlock]) | refine VOps.vP (VPure.assign rfl rfl) ?_)) | refine VCode.seq ?_))
    refine VCode.draw [] rfl ?_
    (repeat (first | ((with_reducible refine VOps.same ?_); (first | (refine VOps.nil ?_; try dsimp only [VThen, VBlock]) | refine VOps.vP (VPure.move rfl rfl) ?_ | refine VOps.vP (VPure.len_map TI.und' rfl rfl) ?_ | refine VOps.vP (VPure.idx_map rfl rfl rfl (by assumption)) ?_ | refine VOps.vP (VPure.field_el rfl rfl) ?_ | refine VOps.vP (VPure.field_ptr rfl rfl rfl) ?_ | refine VOps.vV (VLoad.el1 rfl rfl rfl (by rfl)) ?_ | refine VOps.vV (VLoad.box1 rfl rfl rfl rfl (by rfl) (by decide)) ?_ | refine VOps.vP (VPure.addK rfl rfl rfl (by omega)) ?_ | refine VOps.vP (VPure.lss rfl rfl rfl) ?_))))
    refine VCode.cond rfl (fun c2 => ?_) (fun c2 => ?_)
    ·(repeat (first | ((with_reducible refine VOps.same ?_); (first | refine VOps.vP (VPure.move rfl rfl) ?_)) | refine VCode.region rfl ?_))
     refine VOps.vP (VPure.or4 (a := 0 ||| 1) (b := 2) rfl rfl rfl (by decide) (by decide)) ?_
     have hK : bitsK (decide (0 < (j1 : Int))) (decide ((j1 : Int) + 1 < (r1.right.length : Int))) = (0 ||| 1) ||| 2 := by rw [c1, c2]; rfl
     rw [hK] at hse0
     (repeat (first | ((with_reducible refine VOps.same ?_); (first | (refine VOps.nil ?_; try dsimp only [VThen, VBlock]) | refine VOps.vP (VPure.assign rfl rfl) ?_))))
     refine VCode.draw [2] rfl ?_
     (repeat (first | ((with_reducible refine VOps.same ?_); (first | refine VOps.vP (VPure.move rfl rfl) ?_ | refine VOps.vP (VPure.idx_map rfl rfl rfl (by assumption)) ?_ | refine VOps.vP (VPure.field_el rfl rfl) ?_ | refine VOps.vP (VPure.field_ptr rfl rfl rfl) ?_ | refine VOps.vV (VLoad.el1 rfl rfl rfl (by rfl)) ?_ | refine VOps.vV (VLoad.box1 rfl rfl rfl rfl (by rfl) (by decide)) ?_ | refine VOps.vP (VPure.subK rfl rfl rfl (by omega)) ?_ | refine VOps.one rfl rfl (by kernel_rfl) rfl (by rfl) (by decide) (by decide) rfl (by rfl) (by rfl) ?_ | refine VOps.vP (VPure.buildA rfl (by kernel_rfl) rfl (by rfl)) ?_))))
     refine VOps.append (zs := (out ++ [stepOf g ((i1 : Int), (j1 : Int))]).map encW) rfl rfl (by kernel_rfl) rfl (by rfl) (by decide) rfl (.arr rfl) rfl (.arr rfl) (by simp only [List.length_append, List.length_cons, List.length_nil, List.length_map]; unfold most; omega) (by simp only [List.length_append, List.length_cons, List.length_nil, List.length_map]; unfold most; omega) rfl ( by rw [List.map_append, List.map_cons, List.map_nil, hse0]; try rfl) ?_
     (repeat (first | ((with_reducible refine VOps.same ?_); (first | (refine VOps.nil ?_; try dsimp only [VThen, VBlock]) | refine VOps.vP (VPure.move rfl rfl) ?_ | refine VOps.vP (VPure.assign rfl rfl) ?_ | refine VOps.vP (VPure.addK rfl rfl rfl (by omega)) ?_)) | refine VCode.region rfl ?_))
     (refine Less.mk (l := [0, 1, 5]) hcx ?ss ?hh rfl (by decide) rfl ⟨_, ?_, k + 1, out ++ [stepOf g ((i1 : Int), (j1 : Int))], by omega, rfl, hnx.symm, rfl⟩; (case ss => repeat (first | exact SubS.nil | refine SubS.cons rfl rfl ?_ | refine SubS.cons (ciI (by omega)) rfl ?_ | refine SubS.cons (ciB (by assumption)) rfl ?_)); (case hh => repeat (first | exact SubH.nil | refine SubH.cons rfl rfl rfl ?_)))
     omega
    ·have hK : bitsK (decide (0 < (j1 : Int))) (decide ((j1 : Int) + 1 < (r1.right.length : Int))) = 0 ||| 1 := by rw [c1, c2]; rfl
     rw [hK] at hse0
     (repeat (first | refine VCode.skip ?_))
     refine VCode.draw [2] rfl ?_
     (repeat (first | ((with_reducible refine VOps.same ?_); (first | refine VOps.vP (VPure.move rfl rfl) ?_ | refine VOps.vP (VPure.idx_map rfl rfl rfl (by assumption)) ?_ | refine VOps.vP (VPure.field_el rfl rfl) ?_ | refine VOps.vP (VPure.field_ptr rfl rfl rfl) ?_ | refine VOps.vV (VLoad.el1 rfl rfl rfl (by rfl)) ?_ | refine VOps.vV (VLoad.box1 rfl rfl rfl rfl (by rfl) (by decide)) ?_ | refine VOps.vP (VPure.subK rfl rfl rfl (by omega)) ?_ | refine VOps.one rfl rfl (by kernel_rfl) rfl (by rfl) (by decide) (by decide) rfl (by rfl) (by rfl) ?_ | refine VOps.vP (VPure.buildA rfl (by kernel_rfl) rfl (by rfl)) ?_))))
     refine VOps.append (zs := (out ++ [stepOf g ((i1 : Int), (j1 : Int))]).map encW) rfl rfl (by kernel_rfl) rfl (by rfl) (by decide) rfl (.arr rfl) rfl (.arr rfl) (by simp only [List.length_append, List.length_cons, List.length_nil, List.length_map]; unfold most; omega) (by simp only [List.length_append, List.length_cons, List.length_nil, List.length_map]; unfold most; omega) rfl ( by rw [List.map_append, List.map_cons, List.map_nil, hse0]; try rfl) ?_
     (repeat (first | ((with_reducible refine VOps.same ?_); (first | (refine VOps.nil ?_; try dsimp only [VThen, VBlock]) | refine VOps.vP (VPure.move rfl rfl) ?_ | refine VOps.vP (VPure.assign rfl rfl) ?_ | refine VOps.vP (VPure.addK rfl rfl rfl (by omega)) ?_)) | refine VCode.region rfl ?_))
     (refine Less.mk (l := [0, 1, 5]) hcx ?ss ?hh rfl (by decide) rfl ⟨_, ?_, k + 1, out ++ [stepOf g ((i1 : Int), (j1 : Int))], by omega, rfl, hnx.symm, rfl⟩; (case ss => repeat (first | exact SubS.nil | refine SubS.cons rfl rfl ?_ | refine SubS.cons (ciI (by omega)) rfl ?_ | refine SubS.cons (ciB (by assumption)) rfl ?_)); (case hh => repeat (first | exact SubH.nil | refine SubH.cons rfl rfl rfl ?_)))
     omega
   ·(repeat (first | refine VCode.seq ?_ | refine VCode.skip ?_))
    refine VCode.draw [] rfl ?_
    (repeat (first | ((with_reducible refine VOps.same ?_); (first | (refine VOps.nil ?_; try dsimp only [VThen, VBlock]) | refine VOps.vP (VPure.move rfl rfl) ?_ | refine VOps.vP (VPure.len_map TI.und' rfl rfl) ?_ | refine VOps.vP (VPure.idx_map rfl rfl rfl (by assumption)) ?_ | refine VOps.vP (VPure.field_el rfl rfl) ?_ | refine VOps.vP (VPure.field_ptr rfl rfl rfl) ?_ | refine VOps.vV (VLoad.el1 rfl rfl rfl (by rfl)) ?_ | refine VOps.vV (VLoad.box1 rfl rfl rfl rfl (by rfl) (by decide)) ?_ | refine VOps.vP (VPure.addK rfl rfl rfl (by omega)) ?_ | refine VOps.vP (VPure.lss rfl rfl rfl) ?_))))
    refine VCode.cond rfl (fun c2 => ?_) (fun c2 => ?_)
    ·(repeat (first | ((with_reducible refine VOps.same ?_); (first | refine VOps.vP (VPure.move rfl rfl) ?_)) | refine VCode.region rfl ?_))
     refine VOps.vP (VPure.or4 (a := 0) (b := 2) rfl rfl rfl (by decide) (by decide)) ?_
     have hK : bitsK (decide (0 < (j1 : Int))) (decide ((j1 : Int) + 1 < (r1.right.length : Int))) = 0 ||| 2 := by rw [c1, c2]; rfl
     rw [hK] at hse0
     (repeat (first | ((with_reducible refine VOps.same ?_); (first | (refine VOps.nil ?_; try dsimp only [VThen, VBlock]) | refine VOps.vP (VPure.assign rfl rfl) ?_))))
     refine VCode.draw [2] rfl ?_
     (repeat (first | ((with_reducible refine VOps.same ?_); (first | refine VOps.vP (VPure.move rfl rfl) ?_ | refine VOps.vP (VPure.idx_map rfl rfl rfl (by assumption)) ?_ | refine VOps.vP (VPure.field_el rfl rfl) ?_ | refine VOps.vP (VPure.field_ptr rfl rfl rfl) ?_ | refine VOps.vV (VLoad.el1 rfl rfl rfl (by rfl)) ?_ | refine VOps.vV (VLoad.box1 rfl rfl rfl rfl (by rfl) (by decide)) ?_ | refine VOps.vP (VPure.subK rfl rfl rfl (by omega)) ?_ | refine VOps.one rfl rfl (by kernel_rfl) rfl (by rfl) (by decide) (by decide) rfl (by rfl) (by rfl) ?_ | refine VOps.vP (VPure.buildA rfl (by kernel_rfl) rfl (by rfl)) ?_))))
     refine VOps.append (zs := (out ++ [stepOf g ((i1 : Int), (j1 : Int))]).map encW) rfl rfl (by kernel_rfl) rfl (by rfl) (by decide) rfl (.arr rfl) rfl (.arr rfl) (by simp only [List.length_append, List.length_cons, List.length_nil, List.length_map]; unfold most; omega) (by simp only [List.length_append, List.length_cons, List.length_nil, List.length_map]; unfold most; omega) rfl ( by rw [List.map_append, List.map_cons, List.map_nil, hse0]; try rfl) ?_
     (repeat (first | ((with_reducible refine VOps.same ?_); (first | (refine VOps.nil ?_; try dsimp only [VThen, VBlock]) | refine VOps.vP (VPure.move rfl rfl) ?_ | refine VOps.vP (VPure.assign rfl rfl) ?_ | refine VOps.vP (VPure.addK rfl rfl rfl (by omega)) ?_)) | refine VCode.region rfl ?_))
     (refine Less.mk (l := [0, 1, 5]) hcx ?ss ?hh rfl (by decide) rfl ⟨_, ?_, k + 1, out ++ [stepOf g ((i1 : Int), (j1 : Int))], by omega, rfl, hnx.symm, rfl⟩; (case ss => repeat (first | exact SubS.nil | refine SubS.cons rfl rfl ?_ | refine SubS.cons (ciI (by omega)) rfl ?_ | refine SubS.cons (ciB (by assumption)) rfl ?_)); (case hh => repeat (first | exact SubH.nil | refine SubH.cons rfl rfl rfl ?_)))
     omega
    ·have hK : bitsK (decide (0 < (j1 : Int))) (decide ((j1 : Int) + 1 < (r1.right.length : Int))) = 0 := by rw [c1, c2]; rfl
     rw [hK] at hse0
     (repeat (first | refine VCode.skip ?_))
     refine VCode.draw [2] rfl ?_
     (repeat (first | ((with_reducible refine VOps.same ?_); (first | refine VOps.vP (VPure.move rfl rfl) ?_ | refine VOps.vP (VPure.idx_map rfl rfl rfl (by assumption)) ?_ | refine VOps.vP (VPure.field_el rfl rfl) ?_ | refine VOps.vP (VPure.field_ptr rfl rfl rfl) ?_ | refine VOps.vV (VLoad.el1 rfl rfl rfl (by rfl)) ?_ | refine VOps.vV (VLoad.box1 rfl rfl rfl rfl (by rfl) (by decide)) ?_ | refine VOps.vP (VPure.subK rfl rfl rfl (by omega)) ?_ | refine VOps.one rfl rfl (by kernel_rfl) rfl (by rfl) (by decide) (by decide) rfl (by rfl) (by rfl) ?_ | refine VOps.vP (VPure.buildA rfl (by kernel_rfl) rfl (by rfl)) ?_))))
     refine VOps.append (zs := (out ++ [stepOf g ((i1 : Int), (j1 : Int))]).map encW) rfl rfl (by kernel_rfl) rfl (by rfl) (by decide) rfl (.arr rfl) rfl (.arr rfl) (by simp only [List.length_append, List.length_cons, List.length_nil, List.length_map]; unfold most; omega) (by simp only [List.length_append, List.length_cons, List.length_nil, List.length_map]; unfold most; omega) rfl ( by rw [List.map_append, List.map_cons, List.map_nil, hse0]; try rfl) ?_
     (repeat (first | ((with_reducible refine VOps.same ?_); (first | (refine VOps.nil ?_; try dsimp only [VThen, VBlock]) | refine VOps.vP (VPure.move rfl rfl) ?_ | refine VOps.vP (VPure.assign rfl rfl) ?_ | refine VOps.vP (VPure.addK rfl rfl rfl (by omega)) ?_)) | refine VCode.region rfl ?_))
     (refine Less.mk (l := [0, 1, 5]) hcx ?ss ?hh rfl (by decide) rfl ⟨_, ?_, k + 1, out ++ [stepOf g ((i1 : Int), (j1 : Int))], by omega, rfl, hnx.symm, rfl⟩; (case ss => repeat (first | exact SubS.nil | refine SubS.cons rfl rfl ?_ | refine SubS.cons (ciI (by omega)) rfl ?_ | refine SubS.cons (ciB (by assumption)) rfl ?_)); (case hh => repeat (first | exact SubH.nil | refine SubH.cons rfl rfl rfl ?_)))
     omega
 | none =>
  have hge : (spots g).length ≤ k := List.getElem?_eq_none_iff.1 hq
  rw [List.take_of_length_le hge] at hout
  obtain rfl : out = stepsOf g w := hout
  (repeat (first | ((with_reducible refine VOps.same ?_); (first | (refine VOps.nil ?_; try dsimp only [VThen, VBlock]) | refine VOps.vP (VPure.move rfl rfl) ?_ | refine VOps.vP (VPure.len_map TI.und' rfl rfl) ?_ | refine VOps.vP (VPure.lss rfl rfl rfl) ?_)) | refine VCode.seq ?_ | refine VCode.region rfl ?_))
  refine VCode.cond_f rfl (decide_eq_false (by omega)) ?_
  (repeat (first | ((with_reducible refine VOps.same ?_); (first | (refine VOps.nil ?_; try dsimp only [VThen, VBlock]) | refine VOps.vP (VPure.assign rfl rfl) ?_)) | refine VCode.seq ?_ | refine VCode.region rfl ?_ | refine VCode.block ?_ | refine VCode.exit ?_))
  refine VCode.freeze (id := 2) rfl ?_
  have hL : ∀ s ∈ stepsOf g w, s.1 < g.names.length ∧ s.2.1 < g.names.length := by
   intro s hs
   obtain ⟨x, hx, rfl⟩ := List.mem_map.1 hs
   exact edges_lt (List.mem_map.2 ⟨x, hx, rfl⟩ : edge g x ∈ edges g w)
  have hLl : (stepsOf g w).length ≤ 480 := by unfold stepsOf; rw [List.length_map]; exact restS_len g w
  generalize stepsOf g w = L at hL hLl
  refine VCode.loop (fun m st => ∃ (k : Nat) (W : List Tab), k ≤ L.length ∧ m = L.length - k ∧ OkW L g.names.length W ∧ (∀ (a : Nat) (xs : Tab), W[a]? = some xs → ∀ s ∈ L.take k, s.1 = a → cellX xs s.2.1 (kOf s) = true) ∧ st = ⟨[(14, .val (.int .i64 (k : Int))), (9, .sl 3 (L.map encW)), (7, .ref 1), (6, .val (.int .i64 (g.names.length : Int)))], [(0, gO g), (1, WO W none)], 2⟩) L.length ?_ ?_
  ·(refine Less.mk (l := [0, 1]) hcx ?ss ?hh rfl (by decide) rfl ⟨0, _, by omega, by omega, rowsF_ok L g.names.length, (by intro a xs _ s hs; cases hs), rfl⟩; (case ss => repeat (first | exact SubS.nil | refine SubS.cons rfl rfl ?_ | refine SubS.cons (ciI (by omega)) rfl ?_ | refine SubS.cons (ciB (by assumption)) rfl ?_)); (case hh => repeat (first | exact SubH.nil | refine SubH.cons rfl rfl rfl ?_)))
  clear hk hol hge
  rintro m st ⟨k, W, hk, rfl, hW, hin, rfl⟩
  cases hq : L[k]? with
  | some s =>
   have hlt : k < L.length := (List.getElem?_eq_some_iff.1 hq).1
   have hsm := List.mem_of_getElem? hq
   obtain ⟨hs1, hs2⟩ := hL s hsm
   have hs3 := kOf_lt s
   obtain ⟨xs, hx⟩ := hW.get hs1
   obtain ⟨hxo, hxs⟩ := hW.row _ _ hx
   obtain ⟨u, hu, hul, hud⟩ := hxo.get hs2
   have hxl := hxo.len
   have hWl := hW.len
   (repeat (first | ((with_reducible refine VOps.same ?_); (first | (refine VOps.nil ?_; try dsimp only [VThen, VBlock]) | refine VOps.vP (VPure.move rfl rfl) ?_ | refine VOps.vP (VPure.len_map TI.und' rfl rfl) ?_ | refine VOps.vP (VPure.lss rfl rfl rfl) ?_)) | refine VCode.seq ?_ | refine VCode.region rfl ?_))
   refine VCode.cond_t rfl (decide_eq_true (by omega)) ?_
   (repeat (first | refine VCode.seq ?_ | refine VCode.block ?_ | refine VCode.skip ?_))
   refine VCode.focus (id := 1) s.1 0 rfl (rows_map (f := rowW) hx rfl) ?_
   refine VCode.draw [2] rfl ?_
   (repeat (first | ((with_reducible refine VOps.same ?_); (first | refine VOps.vP (VPure.move rfl rfl) ?_ | refine VOps.vP (VPure.idx_map rfl rfl rfl (by assumption)) ?_ | refine VOps.vP (VPure.idx_arrm rfl rfl rfl rfl (by assumption)) ?_ | (refine VOps.vP (VPure.idx_el rfl rfl rfl ?b1 ?b2) ?_; (case b1 => (first | omega | (simp only [List.length_map, List.length_append, List.length_cons, List.length_nil] at *; omega) | (simp; omega))); (case b2 => (first | omega | (simp only [List.length_map, List.length_append, List.length_cons, List.length_nil] at *; omega) | (simp; omega)))) | refine VOps.vV (VLoad.el1 rfl rfl rfl (by rfl)) ?_ | (refine VOps.vP (VPure.idx_nest rfl rfl rfl rfl ?b1 ?b2) ?_; (case b1 => (first | omega | (simp only [List.length_map, List.length_append, List.length_cons, List.length_nil] at *; omega) | (simp; omega))); (case b2 => (first | omega | (simp only [List.length_map, List.length_append, List.length_cons, List.length_nil] at *; omega) | (simp; omega)))) | (refine VOps.vV (VLoad.hole rfl rfl rfl (by rfl) ?b1 rfl (by decide)) ?_; (case b1 => exact ⟨by (first | omega | (simp only [List.length_map, List.length_append, List.length_cons, List.length_nil] at *; omega) | (simp; omega)), by decide⟩))))))
   refine VOps.vP (VPure.idx_ael rfl rfl rfl rfl (map_ne hu) (by omega) (by omega)) ?_
   refine VOps.store_arrm (u' := u.set (kOf s) true) (ys := setX xs s.2.1 (kOf s)) (k := s.2.1) (j := kOf s) rfl rfl (by kernel_rfl) rfl rfl rfl rfl (by simp) hu rfl rfl (by show kOf s + 1 ≤ 4; omega) (splice_enc (by omega)) (by unfold setX; rw [hud]) ?_
   refine VOps.nil ?_
   try dsimp only [VThen, VBlock]
   refine VCode.unfocus (id := 3) rfl rfl ⟨by rw [List.length_map]; omega, by decide⟩ (putN_map (u' := setX xs s.2.1 (kOf s)) hx rfl) ?_
   (repeat (first | ((with_reducible refine VOps.same ?_); (first | (refine VOps.nil ?_; try dsimp only [VThen, VBlock]) | refine VOps.vP (VPure.move rfl rfl) ?_ | refine VOps.vP (VPure.assign rfl rfl) ?_ | refine VOps.vP (VPure.addK rfl rfl rfl (by omega)) ?_)) | refine VCode.region rfl ?_))
   (refine Less.mk (l := [0, 4]) hcx ?ss ?hh rfl (by decide) rfl ⟨_, ?_, k + 1, W.set s.1 (setX xs s.2.1 (kOf s)), by omega, rfl, hW.set hs1 (hxo.set hs2) (hxs.first hxo hsm hs2), first_step hW hq hx hs1 hs2 hin, rfl⟩; (case ss => repeat (first | exact SubS.nil | refine SubS.cons rfl rfl ?_ | refine SubS.cons (ciI (by omega)) rfl ?_ | refine SubS.cons (ciB (by assumption)) rfl ?_)); (case hh => repeat (first | exact SubH.nil | refine SubH.cons rfl rfl rfl ?_)))
   omega
  | none =>
   have hge : L.length ≤ k := List.getElem?_eq_none_iff.1 hq
   rw [List.take_of_length_le hge] at hin
   replace hin : ∀ (a : Nat) (xs : Tab), W[a]? = some xs → InitX L a xs := fun a xs h s hs e => hin a xs h s hs e
   (repeat (first | ((with_reducible refine VOps.same ?_); (first | (refine VOps.nil ?_; try dsimp only [VThen, VBlock]) | refine VOps.vP (VPure.move rfl rfl) ?_ | refine VOps.vP (VPure.len_map TI.und' rfl rfl) ?_ | refine VOps.vP (VPure.lss rfl rfl rfl) ?_)) | refine VCode.seq ?_ | refine VCode.region rfl ?_))
   refine VCode.cond_f rfl (decide_eq_false (by omega)) ?_
   (repeat (first | ((with_reducible refine VOps.same ?_); (first | (refine VOps.nil ?_; try dsimp only [VThen, VBlock]) | refine VOps.vP (VPure.assign rfl rfl) ?_)) | refine VCode.seq ?_ | refine VCode.region rfl ?_ | refine VCode.block ?_ | refine VCode.exit ?_))
   refine VCode.loop (fun m st => ∃ (W : List Tab) (c : Bool), m = 2 * fW W + (if c then 1 else 0) ∧ OkW L g.names.length W ∧ (∀ (a : Nat) (xs : Tab), W[a]? = some xs → InitX L a xs) ∧ (c = false → ∀ (a : Nat) (xs : Tab), W[a]? = some xs → ClosedX L xs) ∧ st = ⟨[(15, .val (.bool c)), (9, .sl 3 (L.map encW)), (7, .ref 1), (6, .val (.int .i64 (g.names.length : Int)))], [(0, gO g), (1, WO W none)], 2⟩) (2 * fW W + 1) ?_ ?_
   ·(refine Less.mk (l := [0, 1]) hcx ?ss ?hh rfl (by decide) rfl ⟨W, true, rfl, hW, hin, (by intro h; cases h), rfl⟩; (case ss => repeat (first | exact SubS.nil | refine SubS.cons rfl rfl ?_ | refine SubS.cons (ciI (by omega)) rfl ?_ | refine SubS.cons (ciB (by assumption)) rfl ?_)); (case hh => repeat (first | exact SubH.nil | refine SubH.cons rfl rfl rfl ?_)))
   clear hk hge hq hW hin W k
   rintro m st ⟨W, c, rfl, hW, hin, hcl, rfl⟩
   cases c with
   | false =>
    obtain rfl := wayW_is hW hin (hcl rfl)
    (repeat (first | ((with_reducible refine VOps.same ?_); (first | (refine VOps.nil ?_; try dsimp only [VThen, VBlock]) | refine VOps.vP (VPure.move rfl rfl) ?_)) | refine VCode.seq ?_ | refine VCode.region rfl ?_))
    refine VCode.cond_f rfl rfl ?_
    refine VCode.loose (id := 1) rfl (rowW_out _) ?_
    refine VCode.freeze (id := 2) rfl ?_
    (repeat (first | ((with_reducible refine VOps.same ?_); (first | (refine VOps.nil ?_; try dsimp only [VThen, VBlock]) | refine VOps.vP (VPure.move rfl rfl) ?_ | refine VOps.vP (VPure.assign rfl rfl) ?_)) | refine VCode.seq ?_ | refine VCode.region rfl ?_ | refine VCode.exit ?_))
    refine VCode.retD rfl rfl (.tmp rfl .nil) ?_
    rfl
   | true =>
    (repeat (first | ((with_reducible refine VOps.same ?_); (first | (refine VOps.nil ?_; try dsimp only [VThen, VBlock]) | refine VOps.vP (VPure.move rfl rfl) ?_)) | refine VCode.seq ?_ | refine VCode.region rfl ?_))
    refine VCode.cond_t rfl rfl ?_
    (repeat (first | ((with_reducible refine VOps.same ?_); (first | (refine VOps.nil ?_; try dsimp only [VThen, VBlock]) | refine VOps.vP (VPure.assign rfl rfl) ?_)) | refine VCode.seq ?_ | refine VCode.region rfl ?_ | refine VCode.block ?_ | refine VCode.skip ?_))
    refine VCode.loop (fun m st => ∃ (a : Nat) (W1 : List Tab) (c1 : Bool), a ≤ g.names.length ∧ m = g.names.length - a ∧ OkW L g.names.length W1 ∧ (∀ (a : Nat) (xs : Tab), W1[a]? = some xs → InitX L a xs) ∧ fW W1 ≤ fW W ∧ (c1 = true → fW W1 < fW W) ∧ (c1 = false → ∀ a' < a, ∀ xs : Tab, W1[a']? = some xs → ClosedX L xs) ∧ st = ⟨[(16, .val (.int .i64 (a : Int))), (15, .val (.bool c1)), (9, .sl 3 (L.map encW)), (7, .ref 1), (6, .val (.int .i64 (g.names.length : Int)))], [(0, gO g), (1, WO W1 none)], 2⟩) g.names.length ?_ ?_
    ·(refine Less.mk (l := [0, 1]) hcx ?ss ?hh rfl (by decide) rfl ⟨0, W, false, by omega, by omega, hW, hin, Nat.le_refl _, (by intro h; cases h), (by intro _ a h; omega), rfl⟩; (case ss => repeat (first | exact SubS.nil | refine SubS.cons rfl rfl ?_ | refine SubS.cons (ciI (by omega)) rfl ?_ | refine SubS.cons (ciB (by assumption)) rfl ?_)); (case hh => repeat (first | exact SubH.nil | refine SubH.cons rfl rfl rfl ?_)))
    rintro m st ⟨a, W1, c1, ha, rfl, hW1, hin1, hle, hlt, hcl1, rfl⟩
    by_cases hal : a < g.names.length
    ·obtain ⟨x0, hx⟩ := hW1.get hal
     obtain ⟨hxo, hxs⟩ := hW1.row _ _ hx
     have hWl := hW1.len
     (repeat (first | ((with_reducible refine VOps.same ?_); (first | (refine VOps.nil ?_; try dsimp only [VThen, VBlock]) | refine VOps.vP (VPure.move rfl rfl) ?_ | refine VOps.vP (VPure.lss rfl rfl rfl) ?_)) | refine VCode.seq ?_ | refine VCode.region rfl ?_))
     refine VCode.cond_t rfl (decide_eq_true (by omega)) ?_
     (repeat (first | ((with_reducible refine VOps.same ?_); (first | (refine VOps.nil ?_; try dsimp only [VThen, VBlock]) | refine VOps.vP (VPure.assign rfl rfl) ?_)) | refine VCode.seq ?_ | refine VCode.region rfl ?_ | refine VCode.block ?_ | refine VCode.skip ?_))
     refine VCode.focus (id := 1) a 0 rfl (rows_map (f := rowW) hx rfl) ?_
     refine VCode.loop (fun m st => ∃ (i : Nat) (xs : Tab) (c : Bool), i ≤ L.length ∧ m = L.length - i ∧ RowI L g.names.length a x0 xs c1 c ∧ (c = false → ∀ s ∈ L.take i, ∀ k < 4, cellX xs s.1 k = true → cellX xs s.2.1 (k ||| kOf s) = true) ∧ st = ⟨[(17, .val (.int .i64 (i : Int))), (16, .val (.int .i64 (a : Int))), (15, .val (.bool c)), (9, .sl 3 (L.map encW)), (7, .ref 1), (6, .val (.int .i64 (g.names.length : Int)))], [(0, gO g), (1, WO W1 (some (a, 0, 2))), (2, .arr 71 4 (xs.map encL))], 3⟩) L.length ?_ ?_
     ·(refine Less.mk (l := [0, 3, 2]) hcx ?ss ?hh rfl (by decide) rfl ⟨0, x0, c1, by omega, by omega, ⟨hxo, hxs, hin1 a x0 hx, Nat.le_refl _, fun h => .inl h, fun h => h⟩, (by intro _ s hs; cases hs), rfl⟩; (case ss => repeat (first | exact SubS.nil | refine SubS.cons rfl rfl ?_ | refine SubS.cons (ciI (by omega)) rfl ?_ | refine SubS.cons (ciB (by assumption)) rfl ?_)); (case hh => repeat (first | exact SubH.nil | refine SubH.cons rfl rfl rfl ?_)))
     rintro m st ⟨i, xs, c, hi, rfl, hR, hd, rfl⟩
     cases hq : L[i]? with
     | some s =>
      have hlti : i < L.length := (List.getElem?_eq_some_iff.1 hq).1
      have hsm := List.mem_of_getElem? hq
      obtain ⟨hs1, hs2⟩ := hL s hsm
      have hs3 := kOf_lt s
      (repeat (first | ((with_reducible refine VOps.same ?_); (first | (refine VOps.nil ?_; try dsimp only [VThen, VBlock]) | refine VOps.vP (VPure.move rfl rfl) ?_ | refine VOps.vP (VPure.len_map TI.und' rfl rfl) ?_ | refine VOps.vP (VPure.lss rfl rfl rfl) ?_)) | refine VCode.seq ?_ | refine VCode.region rfl ?_))
      refine VCode.cond_t rfl (decide_eq_true (by omega)) ?_
      (repeat (first | ((with_reducible refine VOps.same ?_); (first | (refine VOps.nil ?_; try dsimp only [VThen, VBlock]) | refine VOps.vP (VPure.assign rfl rfl) ?_)) | refine VCode.seq ?_ | refine VCode.region rfl ?_ | refine VCode.block ?_ | refine VCode.skip ?_))
      refine VCode.loop (fun m st => ∃ (k : Nat) (xs : Tab) (c : Bool), k ≤ 4 ∧ m = 4 - k ∧ RowI L g.names.length a x0 xs c1 c ∧ (c = false → ∀ s ∈ L.take i, ∀ k < 4, cellX xs s.1 k = true → cellX xs s.2.1 (k ||| kOf s) = true) ∧ (c = false → ∀ k' < k, cellX xs s.1 k' = true → cellX xs s.2.1 (k' ||| kOf s) = true) ∧ st = ⟨[(18, .val (.int .i64 (k : Int))), (17, .val (.int .i64 (i : Int))), (16, .val (.int .i64 (a : Int))), (15, .val (.bool c)), (9, .sl 3 (L.map encW)), (7, .ref 1), (6, .val (.int .i64 (g.names.length : Int)))], [(0, gO g), (1, WO W1 (some (a, 0, 2))), (2, .arr 71 4 (xs.map encL))], 3⟩) 4 ?_ ?_
      ·(refine Less.mk (l := [0, 1, 2]) hcx ?ss ?hh rfl (by decide) rfl ⟨0, xs, c, by omega, by omega, hR, hd, (by intro _ k h; omega), rfl⟩; (case ss => repeat (first | exact SubS.nil | refine SubS.cons rfl rfl ?_ | refine SubS.cons (ciI (by omega)) rfl ?_ | refine SubS.cons (ciB (by assumption)) rfl ?_)); (case hh => repeat (first | exact SubH.nil | refine SubH.cons rfl rfl rfl ?_)))
      clear hR hd xs c
      rintro m st ⟨k, xs, c, hk, rfl, hR, hd, hkd, rfl⟩
      by_cases hk4 : k < 4
      ·obtain ⟨u1, hu1, hl1, hd1⟩ := hR.ok.get hs1
       obtain ⟨u2, hu2, hl2, hd2⟩ := hR.ok.get hs2
       have hm4 := or_lt hk4 hs3
       have hxl := hR.ok.len
       have g1 : (encL u1)[k]? = some (.val (.bool (cellX xs s.1 k))) := by unfold cellX; rw [hd1]; exact encL_get (by omega)
       have g2 : (encL u2)[k ||| kOf s]? = some (.val (.bool (cellX xs s.2.1 (k ||| kOf s)))) := by unfold cellX; rw [hd2]; exact encL_get (by omega)
       (repeat (first | ((with_reducible refine VOps.same ?_); (first | (refine VOps.nil ?_; try dsimp only [VThen, VBlock]) | refine VOps.vP (VPure.move rfl rfl) ?_ | refine VOps.vP (VPure.lss rfl rfl rfl) ?_)) | refine VCode.seq ?_ | refine VCode.region rfl ?_))
       refine VCode.cond_t rfl (decide_eq_true (by omega)) ?_
       (repeat (first | ((with_reducible refine VOps.same ?_); (first | refine VOps.vP (VPure.move rfl rfl) ?_ | refine VOps.vP (VPure.idx_map rfl rfl rfl (by assumption)) ?_ | (refine VOps.vP (VPure.idx_el rfl rfl rfl ?b1 ?b2) ?_; (case b1 => (first | omega | (simp only [List.length_map, List.length_append, List.length_cons, List.length_nil] at *; omega) | (simp; omega))); (case b2 => (first | omega | (simp only [List.length_map, List.length_append, List.length_cons, List.length_nil] at *; omega) | (simp; omega)))) | refine VOps.vV (VLoad.el1 rfl rfl rfl (by rfl)) ?_)) | refine VCode.seq ?_ | refine VCode.draw [] rfl ?_ | refine VCode.block ?_ | refine VCode.skip ?_))
       refine VOps.vP (VPure.or4 (a := k) (b := kOf s) rfl rfl rfl hk4 hs3) ?_
       (repeat (first | ((with_reducible refine VOps.same ?_); (first | (refine VOps.nil ?_; try dsimp only [VThen, VBlock]) | refine VOps.vP (VPure.move rfl rfl) ?_ | refine VOps.vP (VPure.assign rfl rfl) ?_ | refine VOps.vP (VPure.idx_arrm rfl rfl rfl rfl (by assumption)) ?_ | (refine VOps.vP (VPure.idx_nest rfl rfl rfl rfl ?b1 ?b2) ?_; (case b1 => (first | omega | (simp only [List.length_map, List.length_append, List.length_cons, List.length_nil] at *; omega) | (simp; omega))); (case b2 => (first | omega | (simp only [List.length_map, List.length_append, List.length_cons, List.length_nil] at *; omega) | (simp; omega)))) | (refine VOps.vV (VLoad.hole rfl rfl rfl (by rfl) ?b1 rfl (by decide)) ?_; (case b1 => exact ⟨by (first | omega | (simp only [List.length_map, List.length_append, List.length_cons, List.length_nil] at *; omega) | (simp; omega)), by decide⟩)))) | refine VCode.seq ?_ | refine VCode.region rfl ?_))
       refine VOps.vP (VPure.idx_ael rfl rfl rfl rfl (map_ne hu1) (by omega) (by omega)) ?_
       refine VOps.vV (VLoad.arr1m (i := s.1) (j := k) rfl rfl rfl (by simp) hu1 g1 rfl (by decide)) ?_
       (repeat (first | ((with_reducible refine VOps.same ?_); (first | refine VOps.vP (VPure.move rfl rfl) ?_))))
       refine VOps.bool (d := 174) rfl (fun e1 => ?_) (fun e1 => ?_)
       ·(repeat (first | ((with_reducible refine VOps.same ?_); (first | refine VOps.vP (VPure.move rfl rfl) ?_ | refine VOps.vP (VPure.idx_arrm rfl rfl rfl rfl (by assumption)) ?_ | (refine VOps.vP (VPure.idx_nest rfl rfl rfl rfl ?b1 ?b2) ?_; (case b1 => (first | omega | (simp only [List.length_map, List.length_append, List.length_cons, List.length_nil] at *; omega) | (simp; omega))); (case b2 => (first | omega | (simp only [List.length_map, List.length_append, List.length_cons, List.length_nil] at *; omega) | (simp; omega)))) | (refine VOps.vV (VLoad.hole rfl rfl rfl (by rfl) ?b1 rfl (by decide)) ?_; (case b1 => exact ⟨by (first | omega | (simp only [List.length_map, List.length_append, List.length_cons, List.length_nil] at *; omega) | (simp; omega)), by decide⟩))))))
        refine VOps.vP (VPure.idx_ael rfl rfl rfl rfl (map_ne hu2) (by omega) (by omega)) ?_
        refine VOps.vV (VLoad.arr1m (i := s.2.1) (j := k ||| kOf s) rfl rfl rfl (by simp) hu2 g2 rfl (by decide)) ?_
        (repeat (first | ((with_reducible refine VOps.same ?_); (first | (refine VOps.nil ?_; try dsimp only [VThen, VBlock]) | refine VOps.vP (VPure.not rfl rfl) ?_ | refine VOps.vP (VPure.pick_t rfl rfl rfl) ?_))))
        refine VCode.cond rfl (fun e2 => ?_) (fun e2 => ?_)
        ·(repeat (first | ((with_reducible refine VOps.same ?_); (first | refine VOps.vP (VPure.move rfl rfl) ?_ | refine VOps.vP (VPure.idx_arrm rfl rfl rfl rfl (by assumption)) ?_ | (refine VOps.vP (VPure.idx_nest rfl rfl rfl rfl ?b1 ?b2) ?_; (case b1 => (first | omega | (simp only [List.length_map, List.length_append, List.length_cons, List.length_nil] at *; omega) | (simp; omega))); (case b2 => (first | omega | (simp only [List.length_map, List.length_append, List.length_cons, List.length_nil] at *; omega) | (simp; omega)))) | (refine VOps.vV (VLoad.hole rfl rfl rfl (by rfl) ?b1 rfl (by decide)) ?_; (case b1 => exact ⟨by (first | omega | (simp only [List.length_map, List.length_append, List.length_cons, List.length_nil] at *; omega) | (simp; omega)), by decide⟩)))) | refine VCode.region rfl ?_))
         refine VOps.vP (VPure.idx_ael rfl rfl rfl rfl (map_ne hu2) (by omega) (by omega)) ?_
         refine VOps.store_arrm (u' := u2.set (k ||| kOf s) true) (ys := setX xs s.2.1 (k ||| kOf s)) (k := s.2.1) (j := k ||| kOf s) rfl rfl (by kernel_rfl) rfl rfl rfl rfl (by simp) hu2 rfl rfl (by show (k ||| kOf s) + 1 ≤ 4; omega) (splice_enc (by omega)) (by unfold setX; rw [hd2]) ?_
         (repeat (first | ((with_reducible refine VOps.same ?_); (first | (refine VOps.nil ?_; try dsimp only [VThen, VBlock]) | refine VOps.vP (VPure.move rfl rfl) ?_ | refine VOps.vP (VPure.assign rfl rfl) ?_ | refine VOps.vP (VPure.addK rfl rfl rfl (by omega)) ?_)) | refine VCode.region rfl ?_))
         (refine Less.mk (l := [0, 1, 2]) hcx ?ss ?hh rfl (by decide) rfl ⟨_, ?_, k + 1, setX xs s.2.1 (k ||| kOf s), true, by omega, rfl, hR.step hsm hs2 hk4 e1 (by simpa using e2), (by intro h; cases h), (by intro h; cases h), rfl⟩; (case ss => repeat (first | exact SubS.nil | refine SubS.cons rfl rfl ?_ | refine SubS.cons (ciI (by omega)) rfl ?_ | refine SubS.cons (ciB (by assumption)) rfl ?_)); (case hh => repeat (first | exact SubH.nil | refine SubH.cons rfl rfl rfl ?_)))
         omega
        ·(repeat (first | ((with_reducible refine VOps.same ?_); (first | (refine VOps.nil ?_; try dsimp only [VThen, VBlock]) | refine VOps.vP (VPure.move rfl rfl) ?_ | refine VOps.vP (VPure.assign rfl rfl) ?_ | refine VOps.vP (VPure.addK rfl rfl rfl (by omega)) ?_)) | refine VCode.region rfl ?_ | refine VCode.skip ?_))
         (refine Less.mk (l := [0, 1, 2]) hcx ?ss ?hh rfl (by decide) rfl ⟨_, ?_, k + 1, xs, c, by omega, rfl, hR, hd, (by
          intro h k' hk' hc
          by_cases e : k' = k
          ·subst e; simpa using e2
          ·exact hkd h k' (by omega) hc), rfl⟩; (case ss => repeat (first | exact SubS.nil | refine SubS.cons rfl rfl ?_ | refine SubS.cons (ciI (by omega)) rfl ?_ | refine SubS.cons (ciB (by assumption)) rfl ?_)); (case hh => repeat (first | exact SubH.nil | refine SubH.cons rfl rfl rfl ?_)))
         omega
       ·(repeat (first | ((with_reducible refine VOps.same ?_); (first | (refine VOps.nil ?_; try dsimp only [VThen, VBlock]) | refine VOps.vP (VPure.pick_f rfl rfl rfl) ?_ | refine VOps.passv rfl (by kernel_rfl) rfl ?_))))
        refine VCode.cond_f rfl rfl ?_
        (repeat (first | ((with_reducible refine VOps.same ?_); (first | (refine VOps.nil ?_; try dsimp only [VThen, VBlock]) | refine VOps.vP (VPure.move rfl rfl) ?_ | refine VOps.vP (VPure.assign rfl rfl) ?_ | refine VOps.vP (VPure.addK rfl rfl rfl (by omega)) ?_)) | refine VCode.region rfl ?_ | refine VCode.skip ?_))
        (refine Less.mk (l := [0, 1, 2]) hcx ?ss ?hh rfl (by decide) rfl ⟨_, ?_, k + 1, xs, c, by omega, rfl, hR, hd, (by
         intro h k' hk' hc
         by_cases e : k' = k
         ·subst e; rw [e1] at hc; cases hc
         ·exact hkd h k' (by omega) hc), rfl⟩; (case ss => repeat (first | exact SubS.nil | refine SubS.cons rfl rfl ?_ | refine SubS.cons (ciI (by omega)) rfl ?_ | refine SubS.cons (ciB (by assumption)) rfl ?_)); (case hh => repeat (first | exact SubH.nil | refine SubH.cons rfl rfl rfl ?_)))
        omega
      ·obtain rfl : k = 4 := by omega
       (repeat (first | ((with_reducible refine VOps.same ?_); (first | (refine VOps.nil ?_; try dsimp only [VThen, VBlock]) | refine VOps.vP (VPure.move rfl rfl) ?_ | refine VOps.vP (VPure.lss rfl rfl rfl) ?_)) | refine VCode.seq ?_ | refine VCode.region rfl ?_))
       refine VCode.cond_f rfl rfl ?_
       (repeat (first | ((with_reducible refine VOps.same ?_); (first | (refine VOps.nil ?_; try dsimp only [VThen, VBlock]) | refine VOps.vP (VPure.move rfl rfl) ?_ | refine VOps.vP (VPure.assign rfl rfl) ?_ | refine VOps.vP (VPure.addK rfl rfl rfl (by omega)) ?_)) | refine VCode.region rfl ?_ | refine VCode.exit ?_))
       (refine Less.mk (l := [0, 1, 2]) hcx ?ss ?hh rfl (by decide) rfl ⟨_, ?_, i + 1, xs, c, by omega, rfl, hR, (by
        intro h t ht
        rw [List.take_add_one, hq] at ht
        rcases List.mem_append.1 ht with ht | ht
        ·exact hd h t ht
        ·have : t = s := by simpa using ht
         subst this
         exact hkd h), rfl⟩; (case ss => repeat (first | exact SubS.nil | refine SubS.cons rfl rfl ?_ | refine SubS.cons (ciI (by omega)) rfl ?_ | refine SubS.cons (ciB (by assumption)) rfl ?_)); (case hh => repeat (first | exact SubH.nil | refine SubH.cons rfl rfl rfl ?_)))
       omega
     | none =>
      have hge : L.length ≤ i := List.getElem?_eq_none_iff.1 hq
      rw [List.take_of_length_le hge] at hd
      have hf := fW_set hx xs
      have hle0 := hR.le
      have hin2 : ∀ (a' : Nat) (ys : Tab), (W1.set a xs)[a']? = some ys → InitX L a' ys := by
       intro a' ys hy
       rw [List.getElem?_set] at hy
       by_cases e : a = a'
       ·subst e
        rw [if_pos rfl, if_pos (by omega)] at hy
        obtain rfl := Option.some.inj hy
        exact hR.ini
       ·rw [if_neg e] at hy; exact hin1 a' ys hy
      have hcl2 : c = false → ∀ a' < a + 1, ∀ ys : Tab, (W1.set a xs)[a']? = some ys → ClosedX L ys := by
       intro h a' ha' ys hy
       rw [List.getElem?_set] at hy
       by_cases e : a = a'
       ·subst e
        rw [if_pos rfl, if_pos (by omega)] at hy
        obtain rfl := Option.some.inj hy
        exact fun s hs k hk hc => hd h s hs k hk hc
       ·rw [if_neg e] at hy; exact hcl1 (hR.no h) a' (by omega) ys hy
      have hlt2 : c = true → fW (W1.set a xs) < fW W := by
       intro h
       rcases hR.lt h with h | h
       ·have := hlt h; omega
       ·omega
      (repeat (first | ((with_reducible refine VOps.same ?_); (first | (refine VOps.nil ?_; try dsimp only [VThen, VBlock]) | refine VOps.vP (VPure.move rfl rfl) ?_ | refine VOps.vP (VPure.len_map TI.und' rfl rfl) ?_ | refine VOps.vP (VPure.lss rfl rfl rfl) ?_)) | refine VCode.seq ?_ | refine VCode.region rfl ?_))
      refine VCode.cond_f rfl (decide_eq_false (by omega)) ?_
      refine VCode.unfocus (id := 1) rfl rfl ⟨by rw [List.length_map]; omega, by decide⟩ (putN_map (u' := xs) hx rfl) ?_
      (repeat (first | ((with_reducible refine VOps.same ?_); (first | (refine VOps.nil ?_; try dsimp only [VThen, VBlock]) | refine VOps.vP (VPure.move rfl rfl) ?_ | refine VOps.vP (VPure.assign rfl rfl) ?_ | refine VOps.vP (VPure.addK rfl rfl rfl (by omega)) ?_)) | refine VCode.region rfl ?_ | refine VCode.exit ?_))
      (refine Less.mk (l := [0, 3]) hcx ?ss ?hh rfl (by decide) rfl ⟨_, ?_, a + 1, W1.set a xs, c, by omega, rfl, hW1.set hal hR.ok hR.snd, hin2, by omega, hlt2, hcl2, rfl⟩; (case ss => repeat (first | exact SubS.nil | refine SubS.cons rfl rfl ?_ | refine SubS.cons (ciI (by omega)) rfl ?_ | refine SubS.cons (ciB (by assumption)) rfl ?_)); (case hh => repeat (first | exact SubH.nil | refine SubH.cons rfl rfl rfl ?_)))
      omega
    ·(repeat (first | ((with_reducible refine VOps.same ?_); (first | (refine VOps.nil ?_; try dsimp only [VThen, VBlock]) | refine VOps.vP (VPure.move rfl rfl) ?_ | refine VOps.vP (VPure.lss rfl rfl rfl) ?_)) | refine VCode.seq ?_ | refine VCode.region rfl ?_))
     refine VCode.cond_f rfl (decide_eq_false (by omega)) ?_
     (repeat (first | refine VCode.exit ?_))
     (refine Less.mk (l := [0, 1]) hcx ?ss ?hh rfl (by decide) rfl ⟨_, ?_, W1, c1, rfl, hW1, hin1, (fun h a' xs hx => hcl1 h a' (by have := (List.getElem?_eq_some_iff.1 hx).1; have := hW1.len; omega) xs hx), rfl⟩; (case ss => repeat (first | exact SubS.nil | refine SubS.cons rfl rfl ?_ | refine SubS.cons (ciI (by omega)) rfl ?_ | refine SubS.cons (ciB (by assumption)) rfl ?_)); (case hh => repeat (first | exact SubH.nil | refine SubH.cons rfl rfl rfl ?_)))
     cases c1 with
     | true => have := hlt rfl; simp; omega
     | false => simp; omega
end Go.Proofs.Ytfjfbapiheehaaa.V
end
section
set_option linter.unusedVariables false
set_option linter.unusedSimpArgs false
namespace Go.Proofs.Ytfjfbapiheehaaa.V
open Go Go.RowKit Go.Proofs.Ytfjfbapiheehaaa.DG
set_option maxHeartbeats 4000000 in
theorem texts_v (a : List ByteArray) (ha : a.length ≤ 1000000) : VCalls Try.prog 42 [.sl 1 (a.map encS), .sl 1 (a.map encS)] [] 0 (Gives (.val (.bool true))) := by
 refine VCalls.enterD (n := 26) Try.func42 rfl rfl (by simp) rfl (fun cx hcx => ?_)
 (repeat (first | ((with_reducible refine VOps.same ?_); (first | (refine VOps.nil ?_; try dsimp only [VThen, VBlock]) | refine VOps.vP (VPure.move rfl rfl) ?_ | refine VOps.vP (VPure.assign rfl rfl) ?_ | refine VOps.vP (VPure.len_map TI.und' rfl rfl) ?_ | refine VOps.vP (VPure.nei rfl rfl rfl) ?_)) | refine VCode.seq ?_ | refine VCode.region rfl ?_))
 refine VCode.cond_f rfl (by simp) ?_
 (repeat (first | ((with_reducible refine VOps.same ?_); (first | (refine VOps.nil ?_; try dsimp only [VThen, VBlock]) | refine VOps.vP (VPure.assign rfl rfl) ?_)) | refine VCode.seq ?_ | refine VCode.region rfl ?_ | refine VCode.block ?_ | refine VCode.skip ?_))
 refine VCode.loop (fun m st => ∃ i : Nat, i ≤ a.length ∧ m = a.length - i ∧ st = ⟨[(5, .val (.int .i64 (i : Int))), (0, .sl 1 (a.map encS)), (1, .sl 1 (a.map encS))], [], 0⟩) a.length ?_ ?_
 ·(refine Less.mk (l := []) hcx ?ss ?hh rfl (by decide) rfl ⟨0, by omega, by omega, rfl⟩; (case ss => repeat (first | exact SubS.nil | refine SubS.cons rfl rfl ?_ | refine SubS.cons (ciI (by omega)) rfl ?_ | refine SubS.cons (ciB (by assumption)) rfl ?_)); (case hh => repeat (first | exact SubH.nil | refine SubH.cons rfl rfl rfl ?_)))
 rintro m st ⟨i, hi, rfl, rfl⟩
 cases hq : a[i]? with
 | some s =>
  have hlt : i < a.length := (List.getElem?_eq_some_iff.1 hq).1
  (repeat (first | ((with_reducible refine VOps.same ?_); (first | (refine VOps.nil ?_; try dsimp only [VThen, VBlock]) | refine VOps.vP (VPure.move rfl rfl) ?_ | refine VOps.vP (VPure.len_map TI.und' rfl rfl) ?_ | refine VOps.vP (VPure.lss rfl rfl rfl) ?_)) | refine VCode.seq ?_ | refine VCode.region rfl ?_))
  refine VCode.cond_t rfl (decide_eq_true (by omega)) ?_
  (repeat (first | ((with_reducible refine VOps.same ?_); (first | (refine VOps.nil ?_; try dsimp only [VThen, VBlock]) | refine VOps.vP (VPure.move rfl rfl) ?_ | refine VOps.vP (VPure.idx_map rfl rfl rfl (by assumption)) ?_ | refine VOps.vV (VLoad.el1 rfl rfl rfl (by rfl)) ?_ | refine VOps.vP (VPure.nes rfl rfl rfl) ?_)) | refine VCode.seq ?_ | refine VCode.draw [] rfl ?_ | refine VCode.block ?_ | refine VCode.skip ?_))
  refine VCode.cond_f rfl (by simp) ?_
  (repeat (first | ((with_reducible refine VOps.same ?_); (first | (refine VOps.nil ?_; try dsimp only [VThen, VBlock]) | refine VOps.vP (VPure.move rfl rfl) ?_ | refine VOps.vP (VPure.assign rfl rfl) ?_ | refine VOps.vP (VPure.addK rfl rfl rfl (by omega)) ?_)) | refine VCode.region rfl ?_ | refine VCode.skip ?_))
  (refine Less.mk (l := []) hcx ?ss ?hh rfl (by decide) rfl ⟨_, ?_, i + 1, by omega, rfl, rfl⟩; (case ss => repeat (first | exact SubS.nil | refine SubS.cons rfl rfl ?_ | refine SubS.cons (ciI (by omega)) rfl ?_ | refine SubS.cons (ciB (by assumption)) rfl ?_)); (case hh => repeat (first | exact SubH.nil | refine SubH.cons rfl rfl rfl ?_)))
  omega
 | none =>
  have hge : a.length ≤ i := List.getElem?_eq_none_iff.1 hq
  (repeat (first | ((with_reducible refine VOps.same ?_); (first | (refine VOps.nil ?_; try dsimp only [VThen, VBlock]) | refine VOps.vP (VPure.move rfl rfl) ?_ | refine VOps.vP (VPure.len_map TI.und' rfl rfl) ?_ | refine VOps.vP (VPure.lss rfl rfl rfl) ?_)) | refine VCode.seq ?_ | refine VCode.region rfl ?_))
  refine VCode.cond_f rfl (decide_eq_false (by omega)) ?_
  (repeat (first | ((with_reducible refine VOps.same ?_); (first | (refine VOps.nil ?_; try dsimp only [VThen, VBlock]) | refine VOps.vP (VPure.assign rfl rfl) ?_)) | refine VCode.seq ?_ | refine VCode.region rfl ?_ | refine VCode.exit ?_))
  refine VCode.retD rfl rfl (.tmp rfl .nil) ?_
  rfl
set_option maxHeartbeats 4000000 in
theorem ints_t (a : List Int) (ha : a.length ≤ 1000000) : VCalls Try.prog 20 [.sl 1 (a.map encI), .sl 1 (a.map encI)] [] 0 (Gives (.val (.bool true))) := by
 refine VCalls.enterD (n := 26) Try.func20 rfl rfl (by simp) rfl (fun cx hcx => ?_)
 (repeat (first | ((with_reducible refine VOps.same ?_); (first | (refine VOps.nil ?_; try dsimp only [VThen, VBlock]) | refine VOps.vP (VPure.move rfl rfl) ?_ | refine VOps.vP (VPure.assign rfl rfl) ?_ | refine VOps.vP (VPure.len_map TI.und' rfl rfl) ?_ | refine VOps.vP (VPure.nei rfl rfl rfl) ?_)) | refine VCode.seq ?_ | refine VCode.region rfl ?_))
 refine VCode.cond_f rfl (by simp) ?_
 (repeat (first | ((with_reducible refine VOps.same ?_); (first | (refine VOps.nil ?_; try dsimp only [VThen, VBlock]) | refine VOps.vP (VPure.assign rfl rfl) ?_)) | refine VCode.seq ?_ | refine VCode.region rfl ?_ | refine VCode.block ?_ | refine VCode.skip ?_))
 refine VCode.loop (fun m st => ∃ i : Nat, i ≤ a.length ∧ m = a.length - i ∧ st = ⟨[(5, .val (.int .i64 (i : Int))), (0, .sl 1 (a.map encI)), (1, .sl 1 (a.map encI))], [], 0⟩) a.length ?_ ?_
 ·(refine Less.mk (l := []) hcx ?ss ?hh rfl (by decide) rfl ⟨0, by omega, by omega, rfl⟩; (case ss => repeat (first | exact SubS.nil | refine SubS.cons rfl rfl ?_ | refine SubS.cons (ciI (by omega)) rfl ?_ | refine SubS.cons (ciB (by assumption)) rfl ?_)); (case hh => repeat (first | exact SubH.nil | refine SubH.cons rfl rfl rfl ?_)))
 rintro m st ⟨i, hi, rfl, rfl⟩
 cases hq : a[i]? with
 | some s =>
  have hlt : i < a.length := (List.getElem?_eq_some_iff.1 hq).1
  (repeat (first | ((with_reducible refine VOps.same ?_); (first | (refine VOps.nil ?_; try dsimp only [VThen, VBlock]) | refine VOps.vP (VPure.move rfl rfl) ?_ | refine VOps.vP (VPure.len_map TI.und' rfl rfl) ?_ | refine VOps.vP (VPure.lss rfl rfl rfl) ?_)) | refine VCode.seq ?_ | refine VCode.region rfl ?_))
  refine VCode.cond_t rfl (decide_eq_true (by omega)) ?_
  (repeat (first | ((with_reducible refine VOps.same ?_); (first | (refine VOps.nil ?_; try dsimp only [VThen, VBlock]) | refine VOps.vP (VPure.move rfl rfl) ?_ | refine VOps.vP (VPure.idx_map rfl rfl rfl (by assumption)) ?_ | refine VOps.vV (VLoad.el1 rfl rfl rfl (by rfl)) ?_ | refine VOps.vP (VPure.nei rfl rfl rfl) ?_)) | refine VCode.seq ?_ | refine VCode.draw [] rfl ?_ | refine VCode.block ?_ | refine VCode.skip ?_))
  refine VCode.cond_f rfl (by simp) ?_
  (repeat (first | ((with_reducible refine VOps.same ?_); (first | (refine VOps.nil ?_; try dsimp only [VThen, VBlock]) | refine VOps.vP (VPure.move rfl rfl) ?_ | refine VOps.vP (VPure.assign rfl rfl) ?_ | refine VOps.vP (VPure.addK rfl rfl rfl (by omega)) ?_)) | refine VCode.region rfl ?_ | refine VCode.skip ?_))
  (refine Less.mk (l := []) hcx ?ss ?hh rfl (by decide) rfl ⟨_, ?_, i + 1, by omega, rfl, rfl⟩; (case ss => repeat (first | exact SubS.nil | refine SubS.cons rfl rfl ?_ | refine SubS.cons (ciI (by omega)) rfl ?_ | refine SubS.cons (ciB (by assumption)) rfl ?_)); (case hh => repeat (first | exact SubH.nil | refine SubH.cons rfl rfl rfl ?_)))
  omega
 | none =>
  have hge : a.length ≤ i := List.getElem?_eq_none_iff.1 hq
  (repeat (first | ((with_reducible refine VOps.same ?_); (first | (refine VOps.nil ?_; try dsimp only [VThen, VBlock]) | refine VOps.vP (VPure.move rfl rfl) ?_ | refine VOps.vP (VPure.len_map TI.und' rfl rfl) ?_ | refine VOps.vP (VPure.lss rfl rfl rfl) ?_)) | refine VCode.seq ?_ | refine VCode.region rfl ?_))
  refine VCode.cond_f rfl (decide_eq_false (by omega)) ?_
  (repeat (first | ((with_reducible refine VOps.same ?_); (first | (refine VOps.nil ?_; try dsimp only [VThen, VBlock]) | refine VOps.vP (VPure.assign rfl rfl) ?_)) | refine VCode.seq ?_ | refine VCode.region rfl ?_ | refine VCode.exit ?_))
  refine VCode.retD rfl rfl (.tmp rfl .nil) ?_
  rfl
theorem bools_t (a : List Bool) (h : a.length ≤ 1000000) : VCalls Try.prog 16 [.sl 1 (a.map encB), .sl 1 (a.map encB)] [] 0 (Gives (.val (.bool true))) := by
 have := bools_v a a h
 rwa [decide_eq_true rfl] at this
theorem spots_t (a : List Spot) (h : a.length ≤ 1000000) : VCalls Try.prog 17 [sV a, sV a] [] 0 (Gives (.val (.bool true))) := by
 have := spots_v a a h
 rwa [decide_eq_true rfl] at this
set_option maxHeartbeats 8000000 in
theorem kgram_v (g : Gr) (hg : Sized g) : VCalls Try.prog 25 [gV g, gV g] [] 0 (Gives (.val (.bool true))) := by
 have ht := hg.terms
 have hn := hg.names
 have hr := hg.rules
 refine VCalls.enterD (n := 65) Try.func25 rfl rfl (by simp) rfl (fun cx hcx => ?_)
 (repeat (first | ((with_reducible refine VOps.same ?_); (first | (refine VOps.nil ?_; try dsimp only [VThen, VBlock]) | refine VOps.vP (VPure.assign rfl rfl) ?_ | refine VOps.vP (VPure.field_ptr rfl rfl rfl) ?_ | refine VOps.vV (VLoad.box1 rfl rfl rfl rfl (by rfl) (by decide)) ?_ | refine VOps.box rfl rfl (by kernel_rfl) rfl rfl rfl rfl ?_)) | refine VCode.seq ?_ | refine VCode.region rfl ?_))
 refine VOps.pure rfl Try.func42 rfl (by kernel_rfl) rfl rfl rfl rfl rfl rfl rfl (texts_v g.terms (by omega)) ?_
 (repeat (first | ((with_reducible refine VOps.same ?_); (first | refine VOps.vP (VPure.move rfl rfl) ?_ | refine VOps.vP (VPure.field_ptr rfl rfl rfl) ?_ | refine VOps.vV (VLoad.box1 rfl rfl rfl rfl (by rfl) (by decide)) ?_ | refine VOps.vP (VPure.not rfl rfl) ?_))))
 refine VOps.pure rfl Try.func42 rfl (by kernel_rfl) rfl rfl rfl rfl rfl rfl rfl (texts_v g.names (by omega)) ?_
 (repeat (first | ((with_reducible refine VOps.same ?_); (first | (refine VOps.nil ?_; try dsimp only [VThen, VBlock]) | refine VOps.vP (VPure.move rfl rfl) ?_ | refine VOps.vP (VPure.len_map TI.und' rfl rfl) ?_ | refine VOps.vP (VPure.field_ptr rfl rfl rfl) ?_ | refine VOps.vV (VLoad.box1 rfl rfl rfl rfl (by rfl) (by decide)) ?_ | refine VOps.vP (VPure.nei rfl rfl rfl) ?_ | refine VOps.vP (VPure.not rfl rfl) ?_ | refine VOps.vP (VPure.pick_f rfl rfl rfl) ?_))))
 refine VCode.cond_f rfl (by simp) ?_
 (repeat (first | ((with_reducible refine VOps.same ?_); (first | (refine VOps.nil ?_; try dsimp only [VThen, VBlock]) | refine VOps.vP (VPure.assign rfl rfl) ?_)) | refine VCode.seq ?_ | refine VCode.region rfl ?_ | refine VCode.block ?_ | refine VCode.skip ?_))
 refine VCode.loop (fun m st => ∃ i : Nat, i ≤ g.rules.length ∧ m = g.rules.length - i ∧ st = ⟨[(5, .val (.int .i64 (i : Int))), (2, .ptr 0 0), (3, .ptr 1 0)], [(0, gO g), (1, gO g)], 2⟩) g.rules.length ?_ ?_
 ·(refine Less.mk (l := [0, 1]) hcx ?ss ?hh rfl (by decide) rfl ⟨0, by omega, by omega, rfl⟩; (case ss => repeat (first | exact SubS.nil | refine SubS.cons rfl rfl ?_ | refine SubS.cons (ciI (by omega)) rfl ?_ | refine SubS.cons (ciB (by assumption)) rfl ?_)); (case hh => repeat (first | exact SubH.nil | refine SubH.cons rfl rfl rfl ?_)))
 rintro m st ⟨i, hi, rfl, rfl⟩
 cases hq : g.rules[i]? with
 | some r =>
  have hlt : i < g.rules.length := (List.getElem?_eq_some_iff.1 hq).1
  have hrr := hg.rights r (List.mem_of_getElem? hq)
  (repeat (first | ((with_reducible refine VOps.same ?_); (first | (refine VOps.nil ?_; try dsimp only [VThen, VBlock]) | refine VOps.vP (VPure.move rfl rfl) ?_ | refine VOps.vP (VPure.len_map TI.und' rfl rfl) ?_ | refine VOps.vP (VPure.field_ptr rfl rfl rfl) ?_ | refine VOps.vV (VLoad.box1 rfl rfl rfl rfl (by rfl) (by decide)) ?_ | refine VOps.vP (VPure.lss rfl rfl rfl) ?_)) | refine VCode.seq ?_ | refine VCode.region rfl ?_))
  refine VCode.cond_t rfl (decide_eq_true (by omega)) ?_
  (repeat (first | ((with_reducible refine VOps.same ?_); (first | refine VOps.vP (VPure.move rfl rfl) ?_ | refine VOps.vP (VPure.idx_map rfl rfl rfl (by assumption)) ?_ | refine VOps.vP (VPure.field_el rfl rfl) ?_ | refine VOps.vP (VPure.field_ptr rfl rfl rfl) ?_ | refine VOps.vV (VLoad.el1 rfl rfl rfl (by rfl)) ?_ | refine VOps.vV (VLoad.box1 rfl rfl rfl rfl (by rfl) (by decide)) ?_ | refine VOps.vP (VPure.nei rfl rfl rfl) ?_)) | refine VCode.seq ?_ | refine VCode.draw [] rfl ?_ | refine VCode.block ?_ | refine VCode.skip ?_))
  refine VOps.says (d := 49) (v := .val (.bool false)) rfl (by simp) ?_
  (repeat (first | ((with_reducible refine VOps.same ?_); (first | refine VOps.vP (VPure.move rfl rfl) ?_ | refine VOps.vP (VPure.idx_map rfl rfl rfl (by assumption)) ?_ | refine VOps.vP (VPure.field_el rfl rfl) ?_ | refine VOps.vP (VPure.field_ptr rfl rfl rfl) ?_ | refine VOps.vV (VLoad.el1 rfl rfl rfl (by rfl)) ?_ | refine VOps.vV (VLoad.box1 rfl rfl rfl rfl (by rfl) (by decide)) ?_))))
  refine VOps.pure rfl Try.func20 rfl (by kernel_rfl) rfl rfl rfl rfl rfl rfl rfl (ints_t r.right (by omega)) ?_
  (repeat (first | ((with_reducible refine VOps.same ?_); (first | (refine VOps.nil ?_; try dsimp only [VThen, VBlock]) | refine VOps.vP (VPure.not rfl rfl) ?_ | refine VOps.vP (VPure.pick_f rfl rfl rfl) ?_))))
  refine VCode.cond_f rfl rfl ?_
  (repeat (first | ((with_reducible refine VOps.same ?_); (first | (refine VOps.nil ?_; try dsimp only [VThen, VBlock]) | refine VOps.vP (VPure.move rfl rfl) ?_ | refine VOps.vP (VPure.assign rfl rfl) ?_ | refine VOps.vP (VPure.addK rfl rfl rfl (by omega)) ?_)) | refine VCode.region rfl ?_ | refine VCode.skip ?_))
  (refine Less.mk (l := [0, 1]) hcx ?ss ?hh rfl (by decide) rfl ⟨_, ?_, i + 1, by omega, rfl, rfl⟩; (case ss => repeat (first | exact SubS.nil | refine SubS.cons rfl rfl ?_ | refine SubS.cons (ciI (by omega)) rfl ?_ | refine SubS.cons (ciB (by assumption)) rfl ?_)); (case hh => repeat (first | exact SubH.nil | refine SubH.cons rfl rfl rfl ?_)))
  omega
 | none =>
  have hge : g.rules.length ≤ i := List.getElem?_eq_none_iff.1 hq
  (repeat (first | ((with_reducible refine VOps.same ?_); (first | (refine VOps.nil ?_; try dsimp only [VThen, VBlock]) | refine VOps.vP (VPure.move rfl rfl) ?_ | refine VOps.vP (VPure.len_map TI.und' rfl rfl) ?_ | refine VOps.vP (VPure.field_ptr rfl rfl rfl) ?_ | refine VOps.vV (VLoad.box1 rfl rfl rfl rfl (by rfl) (by decide)) ?_ | refine VOps.vP (VPure.lss rfl rfl rfl) ?_)) | refine VCode.seq ?_ | refine VCode.region rfl ?_))
  refine VCode.cond_f rfl (decide_eq_false (by omega)) ?_
  (repeat (first | ((with_reducible refine VOps.same ?_); (first | (refine VOps.nil ?_; try dsimp only [VThen, VBlock]) | refine VOps.vP (VPure.assign rfl rfl) ?_)) | refine VCode.seq ?_ | refine VCode.region rfl ?_ | refine VCode.exit ?_))
  refine VCode.retD rfl rfl (.tmp rfl .nil) ?_
  rfl
set_option maxHeartbeats 4000000 in
theorem ways_n (g : Gr) (w : List Spot) (hg : Sized g) (hG : ¬ GoodG g) : VCalls Try.prog 49 [gV g, sV w] [] 0 (Gives (.val (.slice none 0 0))) := by
 refine VCalls.enterD (n := 195) Try.func49 rfl rfl (by simp) rfl (fun cx hcx => ?_)
 (repeat (first | ((with_reducible refine VOps.same ?_); (first | (refine VOps.nil ?_; try dsimp only [VThen, VBlock]) | refine VOps.vP (VPure.assign rfl rfl) ?_ | refine VOps.vV (VLoad.boxA rfl rfl rfl (by rfl) (leR (by rfl)) (by decide)) ?_ | refine VOps.box rfl rfl (by kernel_rfl) rfl rfl rfl rfl ?_)) | refine VCode.seq ?_ | refine VCode.region rfl ?_))
 refine VOps.pure rfl Try.func26 rfl (by kernel_rfl) rfl rfl rfl rfl rfl rfl rfl (rgood_v g hg) ?_
 (repeat (first | ((with_reducible refine VOps.same ?_); (first | (refine VOps.nil ?_; try dsimp only [VThen, VBlock]) | refine VOps.vP (VPure.not rfl rfl) ?_))))
 refine VCode.cond_t rfl (by rw [decide_eq_false hG]; rfl) ?_
 (repeat (first | ((with_reducible refine VOps.same ?_); (first | (refine VOps.nil ?_; try dsimp only [VThen, VBlock]) | refine VOps.vP (VPure.assign rfl rfl) ?_)) | refine VCode.seq ?_ | refine VCode.region rfl ?_))
 refine VCode.retD rfl rfl (.tmp rfl .nil) ?_
 rfl
theorem drop_get {α : Type} {l : List α} {k : Nat} {c : α} (h : l[k]? = some c) : (l.drop (((k : Nat) : Int).toNat * 1))[0]? = some c := by
 rw [List.getElem?_drop]
 simpa using h
set_option maxHeartbeats 8000000 in
theorem told_v (g : Gr) (w : List Spot) (hg : Sized g) (hw : w.length ≤ 1000000) (bits : Nat) (so : Pl → Bool) (hb : bits < 4) (hso : ∀ a, toldB (stepsOf g w) bits a 4 = eC g w so a) : VCalls Try.prog 31 [gV g, sV w, .val (.int .i64 (bits : Int))] [] 0 (Gives (.sl 1 ((eachOf g w so).map encB))) := by
 have ht := hg.terms
 have hn := hg.names
 refine VCalls.enterD (n := 49) Try.func31 rfl rfl (by simp) rfl (fun cx hcx => ?_)
 (repeat (first | ((with_reducible refine VOps.same ?_); (first | (refine VOps.nil ?_; try dsimp only [VThen, VBlock]) | refine VOps.vP (VPure.move rfl rfl) ?_ | refine VOps.vP (VPure.assign rfl rfl) ?_ | refine VOps.vV (VLoad.boxA rfl rfl rfl (by rfl) (leR (by rfl)) (by decide)) ?_ | refine VOps.box rfl rfl (by kernel_rfl) rfl rfl rfl rfl ?_)) | refine VCode.seq ?_ | refine VCode.region rfl ?_))
 by_cases hG : GoodG g
 ·refine VOps.gives rfl Try.func49 rfl (by kernel_rfl) rfl rfl rfl rfl rfl rfl rfl rfl (ways_v g w hg hw hG) ?_
  (repeat (first | ((with_reducible refine VOps.same ?_); (first | (refine VOps.nil ?_; try dsimp only [VThen, VBlock]) | refine VOps.vP (VPure.assign rfl rfl) ?_)) | refine VCode.seq ?_ | refine VCode.region rfl ?_ | refine VCode.block ?_))
  refine VCode.nilObj 8 4 1 rfl ?_
  refine VCode.loop (fun m st => ∃ a : Nat, a ≤ g.names.length ∧ m = g.names.length - a ∧ st = ⟨[(9, .val (.int .i64 (a : Int))), (8, .ref 1), (7, .sl 1 ((wayW (stepsOf g w) g.names.length).map fun xs => [D.sl 4 (xs.map encL)])), (2, .val (.int .i64 (bits : Int)))], [(0, gO g), (1, .arr 4 1 (((List.range a).map fun a => eC g w so a).map encB))], 2⟩) g.names.length ?_ ?_
  ·(refine Less.mk (l := [0, 1]) hcx ?ss ?hh rfl (by decide) rfl ⟨0, by omega, by omega, rfl⟩; (case ss => repeat (first | exact SubS.nil | refine SubS.cons rfl rfl ?_ | refine SubS.cons (ciI (by omega)) rfl ?_ | refine SubS.cons (ciB (by assumption)) rfl ?_)); (case hh => repeat (first | exact SubH.nil | refine SubH.cons rfl rfl rfl ?_)))
  rintro m st ⟨a, ha, rfl, rfl⟩
  have hwl : (wayW (stepsOf g w) g.names.length).length = g.names.length := by unfold wayW; simp
  by_cases hal : a < g.names.length
  ·have hx : (wayW (stepsOf g w) g.names.length)[a]? = some (wayX (stepsOf g w) g.names.length a) := by unfold wayW; rw [List.getElem?_map, List.getElem?_range hal]; rfl
   have hu : (wayX (stepsOf g w) g.names.length a)[a]? = some ((List.range 4).map fun k => wayB (stepsOf g w) a a k) := by unfold wayX; rw [List.getElem?_map, List.getElem?_range hal]; rfl
   (repeat (first | ((with_reducible refine VOps.same ?_); (first | (refine VOps.nil ?_; try dsimp only [VThen, VBlock]) | refine VOps.vP (VPure.move rfl rfl) ?_ | refine VOps.vP (VPure.len_map TI.und' rfl rfl) ?_ | refine VOps.vP (VPure.lss rfl rfl rfl) ?_)) | refine VCode.seq ?_ | refine VCode.region rfl ?_))
   refine VCode.cond_t rfl (decide_eq_true (by omega)) ?_
   (repeat (first | ((with_reducible refine VOps.same ?_); (first | (refine VOps.nil ?_; try dsimp only [VThen, VBlock]) | refine VOps.vP (VPure.assign rfl rfl) ?_)) | refine VCode.seq ?_ | refine VCode.region rfl ?_ | refine VCode.block ?_ | refine VCode.skip ?_))
   refine VCode.loop (fun m st => ∃ (k : Nat) (S : Bool), k ≤ 4 ∧ m = 4 - k ∧ S = toldB (stepsOf g w) bits a k ∧ st = ⟨[(11, .val (.int .i64 (k : Int))), (10, .val (.bool S)), (9, .val (.int .i64 (a : Int))), (8, .ref 1), (7, .sl 1 ((wayW (stepsOf g w) g.names.length).map fun xs => [D.sl 4 (xs.map encL)])), (2, .val (.int .i64 (bits : Int)))], [(0, gO g), (1, .arr 4 1 (((List.range a).map fun a => eC g w so a).map encB))], 2⟩) 4 ?_ ?_
   ·(refine Less.mk (l := [0, 1]) hcx ?ss ?hh rfl (by decide) rfl ⟨0, false, by omega, by omega, rfl, rfl⟩; (case ss => repeat (first | exact SubS.nil | refine SubS.cons rfl rfl ?_ | refine SubS.cons (ciI (by omega)) rfl ?_ | refine SubS.cons (ciB (by assumption)) rfl ?_)); (case hh => repeat (first | exact SubH.nil | refine SubH.cons rfl rfl rfl ?_)))
   rintro m st ⟨k, S, hk, rfl, hS, rfl⟩
   by_cases hk4 : k < 4
   ·have hc : (encL ((List.range 4).map fun k => wayB (stepsOf g w) a a k))[k]? = some (.val (.bool (wayB (stepsOf g w) a a k))) := by unfold encL; rw [List.getElem?_map, List.getElem?_map, List.getElem?_range hk4]; rfl
    have ht2 := told_succ (stepsOf g w) bits a k
    rw [← hS] at ht2
    clear hS
    (repeat (first | ((with_reducible refine VOps.same ?_); (first | (refine VOps.nil ?_; try dsimp only [VThen, VBlock]) | refine VOps.vP (VPure.move rfl rfl) ?_ | refine VOps.vP (VPure.lss rfl rfl rfl) ?_)) | refine VCode.seq ?_ | refine VCode.region rfl ?_))
    refine VCode.cond_t rfl (decide_eq_true (by omega)) ?_
    (repeat (first | ((with_reducible refine VOps.same ?_); (first | refine VOps.vP (VPure.move rfl rfl) ?_)) | refine VCode.seq ?_ | refine VCode.region rfl ?_ | refine VCode.block ?_ | refine VCode.skip ?_))
    refine VOps.bool (d := 26) rfl (fun e1 => ?_) (fun e1 => ?_)
    ·have hS : true = toldB (stepsOf g w) bits a (k + 1) := by rw [ht2, e1]; rfl
     (repeat (first | ((with_reducible refine VOps.same ?_); (first | (refine VOps.nil ?_; try dsimp only [VThen, VBlock]) | refine VOps.vP (VPure.move rfl rfl) ?_ | refine VOps.vP (VPure.assign rfl rfl) ?_ | refine VOps.vP (VPure.addK rfl rfl rfl (by omega)) ?_ | refine VOps.vP (VPure.pick_t rfl rfl rfl) ?_ | refine VOps.passv rfl (by kernel_rfl) rfl ?_)) | refine VCode.region rfl ?_))
     (refine Less.mk (l := [0, 1]) hcx ?ss ?hh rfl (by decide) rfl ⟨_, ?_, k + 1, _, by omega, rfl, hS, rfl⟩; (case ss => repeat (first | exact SubS.nil | refine SubS.cons rfl rfl ?_ | refine SubS.cons (ciI (by omega)) rfl ?_ | refine SubS.cons (ciB (by assumption)) rfl ?_)); (case hh => repeat (first | exact SubH.nil | refine SubH.cons rfl rfl rfl ?_)))
     omega
    ·(repeat (first | ((with_reducible refine VOps.same ?_); (first | refine VOps.vP (VPure.move rfl rfl) ?_))))
     refine VOps.vP (VPure.and4 (a := k) (b := bits) rfl rfl rfl hk4 hb) ?_
     (repeat (first | ((with_reducible refine VOps.same ?_); (first | refine VOps.vP (VPure.move rfl rfl) ?_ | refine VOps.vP (VPure.eqi rfl rfl rfl) ?_))))
     refine VOps.bool (d := 32) rfl (fun e2 => ?_) (fun e2 => ?_)
     ·have e2' : decide (k &&& bits = bits) = true := decide_eq_true (by have := of_decide_eq_true e2; omega)
      have hS : wayB (stepsOf g w) a a k = toldB (stepsOf g w) bits a (k + 1) := by rw [ht2, e1, e2']; simp
      (repeat (first | ((with_reducible refine VOps.same ?_); (first | refine VOps.vP (VPure.move rfl rfl) ?_ | refine VOps.vP (VPure.idx_map rfl rfl rfl (by assumption)) ?_ | (refine VOps.vP (VPure.idx_el rfl rfl rfl ?b1 ?b2) ?_; (case b1 => (first | omega | (simp only [List.length_map, List.length_append, List.length_cons, List.length_nil] at *; omega) | (simp; omega))); (case b2 => (first | omega | (simp only [List.length_map, List.length_append, List.length_cons, List.length_nil] at *; omega) | (simp; omega)))) | refine VOps.vV (VLoad.el1 rfl rfl rfl (by rfl)) ?_))))
      refine VOps.vV (VLoad.el1 rfl rfl (drop_get hc) (by rfl)) ?_
      (repeat (first | ((with_reducible refine VOps.same ?_); (first | (refine VOps.nil ?_; try dsimp only [VThen, VBlock]) | refine VOps.vP (VPure.move rfl rfl) ?_ | refine VOps.vP (VPure.assign rfl rfl) ?_ | refine VOps.vP (VPure.addK rfl rfl rfl (by omega)) ?_ | refine VOps.vP (VPure.pick_t rfl rfl rfl) ?_ | refine VOps.vP (VPure.pick_f rfl rfl rfl) ?_)) | refine VCode.region rfl ?_))
      (refine Less.mk (l := [0, 1]) hcx ?ss ?hh rfl (by decide) rfl ⟨_, ?_, k + 1, _, by omega, rfl, hS, rfl⟩; (case ss => repeat (first | exact SubS.nil | refine SubS.cons rfl rfl ?_ | refine SubS.cons (ciI (by omega)) rfl ?_ | refine SubS.cons (ciB (by assumption)) rfl ?_)); (case hh => repeat (first | exact SubH.nil | refine SubH.cons rfl rfl rfl ?_)))
      omega
     ·have e2' : decide (k &&& bits = bits) = false := decide_eq_false (by have := of_decide_eq_false e2; omega)
      have hS : false = toldB (stepsOf g w) bits a (k + 1) := by rw [ht2, e1, e2']; rfl
      (repeat (first | ((with_reducible refine VOps.same ?_); (first | (refine VOps.nil ?_; try dsimp only [VThen, VBlock]) | refine VOps.vP (VPure.move rfl rfl) ?_ | refine VOps.vP (VPure.assign rfl rfl) ?_ | refine VOps.vP (VPure.addK rfl rfl rfl (by omega)) ?_ | refine VOps.vP (VPure.pick_f rfl rfl rfl) ?_ | refine VOps.passv rfl (by kernel_rfl) rfl ?_)) | refine VCode.region rfl ?_))
      (refine Less.mk (l := [0, 1]) hcx ?ss ?hh rfl (by decide) rfl ⟨_, ?_, k + 1, _, by omega, rfl, hS, rfl⟩; (case ss => repeat (first | exact SubS.nil | refine SubS.cons rfl rfl ?_ | refine SubS.cons (ciI (by omega)) rfl ?_ | refine SubS.cons (ciB (by assumption)) rfl ?_)); (case hh => repeat (first | exact SubH.nil | refine SubH.cons rfl rfl rfl ?_)))
      omega
   ·obtain rfl : k = 4 := by omega
    rw [hso] at hS
    have hrl : (List.range a).length ≤ 4000 := by rw [List.length_range]; omega
    (repeat (first | ((with_reducible refine VOps.same ?_); (first | (refine VOps.nil ?_; try dsimp only [VThen, VBlock]) | refine VOps.vP (VPure.move rfl rfl) ?_ | refine VOps.vP (VPure.lss rfl rfl rfl) ?_)) | refine VCode.seq ?_ | refine VCode.region rfl ?_))
    refine VCode.cond_f rfl rfl ?_
    (repeat (first | ((with_reducible refine VOps.same ?_); (first | refine VOps.vP (VPure.move rfl rfl) ?_ | refine VOps.one rfl rfl (by kernel_rfl) rfl (by rfl) (by decide) (by decide) rfl (by rfl) (by rfl) ?_)) | refine VCode.region rfl ?_ | refine VCode.exit ?_))
    refine VOps.append (zs := ((List.range (a + 1)).map fun a => eC g w so a).map encB) rfl rfl (by kernel_rfl) rfl (by rfl) (by decide) rfl (.arr rfl) rfl (.arr rfl) (by simp only [List.length_append, List.length_cons, List.length_nil, List.length_map]; unfold most; omega) (by simp only [List.length_append, List.length_cons, List.length_nil, List.length_map]; unfold most; omega) rfl ( by rw [List.range_succ, List.map_append, List.map_append, hS]; rfl) ?_
    (repeat (first | ((with_reducible refine VOps.same ?_); (first | (refine VOps.nil ?_; try dsimp only [VThen, VBlock]) | refine VOps.vP (VPure.move rfl rfl) ?_ | refine VOps.vP (VPure.assign rfl rfl) ?_ | refine VOps.vP (VPure.addK rfl rfl rfl (by omega)) ?_)) | refine VCode.region rfl ?_))
    (refine Less.mk (l := [0, 3]) hcx ?ss ?hh rfl (by decide) rfl ⟨_, ?_, a + 1, by omega, rfl, rfl⟩; (case ss => repeat (first | exact SubS.nil | refine SubS.cons rfl rfl ?_ | refine SubS.cons (ciI (by omega)) rfl ?_ | refine SubS.cons (ciB (by assumption)) rfl ?_)); (case hh => repeat (first | exact SubH.nil | refine SubH.cons rfl rfl rfl ?_)))
    omega
  ·obtain rfl : a = g.names.length := by omega
   (repeat (first | ((with_reducible refine VOps.same ?_); (first | (refine VOps.nil ?_; try dsimp only [VThen, VBlock]) | refine VOps.vP (VPure.move rfl rfl) ?_ | refine VOps.vP (VPure.len_map TI.und' rfl rfl) ?_ | refine VOps.vP (VPure.lss rfl rfl rfl) ?_)) | refine VCode.seq ?_ | refine VCode.region rfl ?_))
   refine VCode.cond_f rfl (decide_eq_false (by omega)) ?_
   (repeat (first | ((with_reducible refine VOps.same ?_); (first | (refine VOps.nil ?_; try dsimp only [VThen, VBlock]) | refine VOps.vP (VPure.move rfl rfl) ?_ | refine VOps.vP (VPure.assign rfl rfl) ?_)) | refine VCode.seq ?_ | refine VCode.region rfl ?_ | refine VCode.exit ?_))
   refine VCode.freeze (id := 1) rfl ?_
   refine VCode.retD rfl rfl (.tmp rfl .nil) ?_
   unfold eachOf
   rw [if_pos hG]; rfl
 ·refine VOps.gives rfl Try.func49 rfl (by kernel_rfl) rfl rfl rfl rfl rfl rfl rfl rfl (ways_n g w hg hG) ?_
  (repeat (first | ((with_reducible refine VOps.same ?_); (first | (refine VOps.nil ?_; try dsimp only [VThen, VBlock]) | refine VOps.vP (VPure.assign rfl rfl) ?_)) | refine VCode.seq ?_ | refine VCode.region rfl ?_ | refine VCode.block ?_))
  refine VCode.nilObj 8 4 1 rfl ?_
  refine VCode.loop (fun m st => m = 0 ∧ st = ⟨[(9, .val (.int .i64 0)), (8, .ref 1), (7, .val (.slice none 0 0))], [(0, gO g), (1, .arr 4 1 [])], 2⟩) 0 ?_ ?_
  ·(refine Less.mk (l := [0, 1]) hcx ?ss ?hh rfl (by decide) rfl ⟨rfl, rfl⟩; (case ss => repeat (first | exact SubS.nil | refine SubS.cons rfl rfl ?_ | refine SubS.cons (ciI (by omega)) rfl ?_ | refine SubS.cons (ciB (by assumption)) rfl ?_)); (case hh => repeat (first | exact SubH.nil | refine SubH.cons rfl rfl rfl ?_)))
  rintro m st ⟨rfl, rfl⟩
  (repeat (first | ((with_reducible refine VOps.same ?_); (first | (refine VOps.nil ?_; try dsimp only [VThen, VBlock]) | refine VOps.vP (VPure.move rfl rfl) ?_ | refine VOps.vP (VPure.len_nil TI.und' rfl rfl) ?_ | refine VOps.vP (VPure.lss rfl rfl rfl) ?_)) | refine VCode.seq ?_ | refine VCode.region rfl ?_))
  refine VCode.cond_f rfl rfl ?_
  (repeat (first | ((with_reducible refine VOps.same ?_); (first | (refine VOps.nil ?_; try dsimp only [VThen, VBlock]) | refine VOps.vP (VPure.move rfl rfl) ?_ | refine VOps.vP (VPure.assign rfl rfl) ?_)) | refine VCode.seq ?_ | refine VCode.region rfl ?_ | refine VCode.exit ?_))
  refine VCode.freeze (id := 1) rfl ?_
  refine VCode.retD rfl rfl (.tmp rfl .nil) ?_
  unfold eachOf
  rw [if_neg hG]; rfl
set_option maxRecDepth 20000 in
set_option maxHeartbeats 16000000 in
theorem etells_v (g : Gr) (w : List Spot) (hw0 : w.length ≤ 1000000000000000) : VCalls Try.prog 7 [gV g, sV w] [] 0 (Gives (.val (.bool true))) := by
 refine VCalls.enterD (n := 58) Try.func7 rfl rfl (by simp) rfl (fun cx hcx => ?_)
 (repeat (first | ((with_reducible refine VOps.same ?_); (first | (refine VOps.nil ?_; try dsimp only [VThen, VBlock]) | refine VOps.vP (VPure.assign rfl rfl) ?_ | refine VOps.vV (VLoad.boxA rfl rfl rfl (by rfl) (leR (by rfl)) (by decide)) ?_ | refine VOps.box rfl rfl (by kernel_rfl) rfl rfl rfl rfl ?_)) | refine VCode.seq ?_ | refine VCode.region rfl ?_))
 refine VOps.pure rfl Try.func11 rfl (by kernel_rfl) rfl rfl rfl rfl rfl rfl rfl (large_v g) ?_
 (repeat (first | ((with_reducible refine VOps.same ?_); (first | refine VOps.vP (VPure.move rfl rfl) ?_))))
 refine VOps.bool (d := 9) rfl (fun h1 => ?_) (fun h1 => ?_)
 ·(repeat (first | ((with_reducible refine VOps.same ?_); (first | (refine VOps.nil ?_; try dsimp only [VThen, VBlock]) | refine VOps.vP (VPure.pick_t rfl rfl rfl) ?_ | refine VOps.passv rfl (by kernel_rfl) rfl ?_))))
  refine VCode.cond_t rfl rfl ?_
  (repeat (first | refine VCode.seq ?_ | refine VCode.region rfl ?_))
  refine VOps.pure rfl Try.func29 rfl (by kernel_rfl) rfl rfl rfl rfl rfl rfl rfl (ewakes_v) ?_
  (repeat (first | ((with_reducible refine VOps.same ?_); (first | (refine VOps.nil ?_; try dsimp only [VThen, VBlock]) | refine VOps.vP (VPure.assign rfl rfl) ?_))))
  refine VCode.retD rfl rfl (.tmp rfl .nil) ?_
  rfl
 obtain ⟨hg, _⟩ := small_sized h1
 have hn := hg.names
 have ht := hg.terms
 have hr := hg.rules
 (repeat (first | ((with_reducible refine VOps.same ?_); (first | (refine VOps.nil ?_; try dsimp only [VThen, VBlock]) | refine VOps.vP (VPure.move rfl rfl) ?_ | refine VOps.vP (VPure.len_map TI.und' rfl rfl) ?_ | refine VOps.vP (VPure.gtr rfl rfl rfl) ?_ | refine VOps.vP (VPure.pick_f rfl rfl rfl) ?_))))
 refine VCode.cond rfl (fun h3 => ?_) (fun h3 => ?_)
 ·skip
  (repeat (first | refine VCode.seq ?_ | refine VCode.region rfl ?_))
  refine VOps.pure rfl Try.func29 rfl (by kernel_rfl) rfl rfl rfl rfl rfl rfl rfl (ewakes_v) ?_
  (repeat (first | ((with_reducible refine VOps.same ?_); (first | (refine VOps.nil ?_; try dsimp only [VThen, VBlock]) | refine VOps.vP (VPure.assign rfl rfl) ?_))))
  refine VCode.retD rfl rfl (.tmp rfl .nil) ?_
  rfl
 have hw := of_decide_eq_false h3
 have hlen : ∀ so, (eachOf g w so).length ≤ 1000000 := by
  intro so
  by_cases hG : GoodG g
  ·rw [eachOf_len hG]; omega
  ·unfold eachOf; rw [if_neg hG]; simp
 have hL1 := hlen soL
 have hL2 := hlen soR
 have hL3 := hlen soB
 have t1 := told_v g w hg (by omega) 1 soL (by decide) (told_L g w)
 have t2 := told_v g w hg (by omega) 2 soR (by decide) (told_R g w)
 have t3 := told_v g w hg (by omega) 3 soB (by decide) (told_B g w)
 (repeat (first | ((with_reducible refine VOps.same ?_); (first | refine VOps.vV (VLoad.boxA rfl rfl rfl (by rfl) (leR (by rfl)) (by decide)) ?_)) | refine VCode.seq ?_ | refine VCode.region rfl ?_ | refine VCode.skip ?_))
 (refine VOps.callL (ch := []) [] rfl Try.func13 rfl (by kernel_rfl) rfl rfl rfl rfl ?hh (by decide) rfl rfl rfl (own_o g hg) rfl (by rfl) rfl ?_; (case hh => repeat (first | exact SubH.nil | refine SubH.cons rfl rfl rfl ?_)))
 refine VOps.freeze (id := 1) rfl ?_
 refine VOps.lit (rows := []) rfl rfl (by kernel_rfl) rfl (by kernel_rfl) (by rfl) (by decide) (by decide) rfl (by rfl) (by rfl) (by rfl) (by rfl) ?_
 (repeat (first | ((with_reducible refine VOps.same ?_); (first | refine VOps.vP (VPure.move rfl rfl) ?_))))
 refine VOps.append (zs := w.map encP) rfl rfl (by kernel_rfl) rfl (by rfl) (by decide) rfl (.arr rfl) rfl (.sl) (by simp only [List.length_append, List.length_cons, List.length_nil, List.length_map]; unfold most; omega) (by simp only [List.length_append, List.length_cons, List.length_nil, List.length_map]; unfold most; omega) rfl ( by simp) ?_
 refine VOps.freeze (id := 4) rfl ?_
 (repeat (first | ((with_reducible refine VOps.same ?_); (first | (refine VOps.nil ?_; try dsimp only [VThen, VBlock]) | refine VOps.vP (VPure.assign rfl rfl) ?_ | refine VOps.alloc rfl rfl (by kernel_rfl) rfl (by kernel_rfl) rfl ?_ | refine VOps.store rfl rfl (by kernel_rfl) rfl rfl rfl rfl rfl rfl (leR (by rfl)) rfl ?_)) | refine VCode.seq ?_))
 refine VCode.lessTo ⟨[(5, .ptr 1 0), (6, sV w), (1, sV w), (2, .ptr 0 0)], [(0, gO g), (1, gO g)], 2⟩ ?_ ?_
 ·(refine Less.mk (l := [0, 5]) hcx ?ss ?hh rfl (by decide) rfl rfl; (case ss => repeat (first | exact SubS.nil | refine SubS.cons rfl rfl ?_ | refine SubS.cons (ciI (by omega)) rfl ?_ | refine SubS.cons (ciB (by assumption)) rfl ?_)); (case hh => repeat (first | exact SubH.nil | refine SubH.cons rfl rfl rfl ?_)))
 refine VCode.thenTo ⟨[(4, .val (.bool true))], [], 0⟩ ?_ ?_
 ·refine VCode.drawAny [] (by kernel_rfl) rfl ?_
  refine VAny.loadI (i := 0) rfl rfl (by kernel_rfl) rfl (VLoad.boxA rfl rfl rfl (by rfl) (leR (by rfl)) (by decide)) ?_
  refine VAny.pureI (i := 1) rfl rfl (by kernel_rfl) rfl (VPure.move rfl rfl) ?_
  refine VAny.loadI (i := 3) rfl rfl (by kernel_rfl) rfl (VLoad.boxA rfl rfl rfl (by rfl) (leR (by rfl)) (by decide)) ?_
  refine VAny.pureI (i := 4) rfl rfl (by kernel_rfl) rfl (VPure.move rfl rfl) ?_
  refine VAny.movesI (is := [2]) (by kernel_rfl) (by simp) rfl (all1 ?_)
  ·refine VMv.oo rfl rfl rfl rfl (VOp.gives rfl Try.func30 rfl rfl rfl rfl rfl rfl (left_v g w hg (by omega)) rfl) ?_
   refine VAny.movesI (is := [5]) (by kernel_rfl) (by simp) rfl (all1 ?_)
   ·refine VMv.oo rfl rfl rfl rfl (VOp.gives rfl Try.func31 rfl rfl rfl rfl rfl rfl (t1) rfl) ?_
    refine VAny.movesI (is := [6]) (by kernel_rfl) (by simp) rfl (all1 ?_)
    ·refine VMv.pure rfl rfl Try.func16 rfl rfl rfl rfl rfl rfl rfl rfl (bools_t (eachOf g w soL) hL1) ?_
     refine VAny.pureI (i := 7) rfl rfl (by kernel_rfl) rfl (VPure.move rfl rfl) ?_
     refine VAny.pureI (i := 9) rfl rfl (by kernel_rfl) rfl (VPure.move rfl rfl) ?_
     refine VAny.pureI (i := 12) rfl rfl (by kernel_rfl) rfl (VPure.move rfl rfl) ?_
     refine VAny.movesI (is := [8, 11]) (by kernel_rfl) (by simp) rfl (allC ?_ (all1 ?_))
     ·refine VMv.load rfl rfl rfl (VLoad.boxA rfl rfl rfl (by rfl) (leR (by rfl)) (by decide)) ?_
      refine VAny.movesI (is := [10, 11]) (by kernel_rfl) (by simp) rfl (allC ?_ (all1 ?_))
      ·refine VMv.oo rfl rfl rfl rfl (VOp.gives rfl Try.func32 rfl rfl rfl rfl rfl rfl (right_v g w hg (by omega)) rfl) ?_
       refine VAny.movesI (is := [11]) (by kernel_rfl) (by simp) rfl (all1 ?_)
       ·refine VMv.load rfl rfl rfl (VLoad.boxA rfl rfl rfl (by rfl) (leR (by rfl)) (by decide)) ?_
        refine VAny.movesI (is := [13]) (by kernel_rfl) (by simp) rfl (all1 ?_)
        ·refine VMv.oo rfl rfl rfl rfl (VOp.gives rfl Try.func31 rfl rfl rfl rfl rfl rfl (t2) rfl) ?_
         refine VAny.movesI (is := [14]) (by kernel_rfl) (by simp) rfl (all1 ?_)
         ·refine VMv.pure rfl rfl Try.func16 rfl rfl rfl rfl rfl rfl rfl rfl (bools_t (eachOf g w soR) hL2) ?_
          refine VAny.pureI (i := 15) rfl rfl (by kernel_rfl) rfl (VPure.pick_t rfl rfl rfl) ?_
          refine VAny.pureI (i := 16) rfl rfl (by kernel_rfl) rfl (VPure.move rfl rfl) ?_
          refine VAny.pureI (i := 18) rfl rfl (by kernel_rfl) rfl (VPure.move rfl rfl) ?_
          refine VAny.pureI (i := 21) rfl rfl (by kernel_rfl) rfl (VPure.move rfl rfl) ?_
          refine VAny.movesI (is := [17, 20]) (by kernel_rfl) (by simp) rfl (allC ?_ (all1 ?_))
          ·refine VMv.load rfl rfl rfl (VLoad.boxA rfl rfl rfl (by rfl) (leR (by rfl)) (by decide)) ?_
           refine VAny.movesI (is := [19, 20]) (by kernel_rfl) (by simp) rfl (allC ?_ (all1 ?_))
           ·refine VMv.oo rfl rfl rfl rfl (VOp.gives rfl Try.func33 rfl rfl rfl rfl rfl rfl (both_v g w hg (by omega)) rfl) ?_
            refine VAny.movesI (is := [20]) (by kernel_rfl) (by simp) rfl (all1 ?_)
            ·refine VMv.load rfl rfl rfl (VLoad.boxA rfl rfl rfl (by rfl) (leR (by rfl)) (by decide)) ?_
             refine VAny.movesI (is := [22]) (by kernel_rfl) (by simp) rfl (all1 ?_)
             ·refine VMv.oo rfl rfl rfl rfl (VOp.gives rfl Try.func31 rfl rfl rfl rfl rfl rfl (t3) rfl) ?_
              refine VAny.movesI (is := [23]) (by kernel_rfl) (by simp) rfl (all1 ?_)
              ·refine VMv.pure rfl rfl Try.func16 rfl rfl rfl rfl rfl rfl rfl rfl (bools_t (eachOf g w soB) hL3) ?_
               refine VAny.pureI (i := 24) rfl rfl (by kernel_rfl) rfl (VPure.pick_t rfl rfl rfl) ?_
               refine VAny.pureI (i := 25) rfl rfl (by kernel_rfl) rfl (VPure.move rfl rfl) ?_
               refine VAny.movesI (is := [26, 27]) (by kernel_rfl) (by simp) rfl (allC ?_ (all1 ?_))
               ·refine VMv.load rfl rfl rfl (VLoad.boxA rfl rfl rfl (by rfl) (leR (by rfl)) (by decide)) ?_
                refine VAny.movesI (is := [27]) (by kernel_rfl) (by simp) rfl (all1 ?_)
                ·refine VMv.load rfl rfl rfl (VLoad.boxA rfl rfl rfl (by rfl) (leR (by rfl)) (by decide)) ?_
                 refine VAny.movesI (is := [28]) (by kernel_rfl) (by simp) rfl (all1 ?_)
                 ·refine VMv.pure rfl rfl Try.func25 rfl rfl rfl rfl rfl rfl rfl rfl (kgram_v g hg) ?_
                  refine VAny.pureI (i := 29) rfl rfl (by kernel_rfl) rfl (VPure.pick_t rfl rfl rfl) ?_
                  refine VAny.pureI (i := 30) rfl rfl (by kernel_rfl) rfl (VPure.move rfl rfl) ?_
                  refine VAny.pureI (i := 31) rfl rfl (by kernel_rfl) rfl (VPure.move rfl rfl) ?_
                  refine VAny.pureI (i := 32) rfl rfl (by kernel_rfl) rfl (VPure.move rfl rfl) ?_
                  refine VAny.movesI (is := [33]) (by kernel_rfl) (by simp) rfl (all1 ?_)
                  ·refine VMv.pure rfl rfl Try.func17 rfl rfl rfl rfl rfl rfl rfl rfl (spots_t w (by omega)) ?_
                   refine VAny.pureI (i := 34) rfl rfl (by kernel_rfl) rfl (VPure.pick_t rfl rfl rfl) ?_
                   refine VAny.pureI (i := 35) rfl rfl (by kernel_rfl) rfl (VPure.move rfl rfl) ?_
                   refine VAny.movesI (is := [36]) (by kernel_rfl) (by simp) rfl (all1 ?_)
                   ·refine VMv.pure rfl rfl Try.func29 rfl rfl rfl rfl rfl rfl rfl rfl (ewakes_v) ?_
                    refine VAny.pureI (i := 37) rfl rfl (by kernel_rfl) rfl (VPure.pick_t rfl rfl rfl) ?_
                    refine VAny.pureI (i := 38) rfl rfl (by kernel_rfl) rfl (VPure.assign rfl rfl) ?_
                    refine VAny.done ?_
                    (refine Less.mk (l := []) hcx ?ss ?hh rfl (by decide) rfl rfl; (case ss => repeat (first | exact SubS.nil | refine SubS.cons rfl rfl ?_ | refine SubS.cons (ciI (by omega)) rfl ?_ | refine SubS.cons (ciB (by assumption)) rfl ?_)); (case hh => repeat (first | exact SubH.nil | refine SubH.cons rfl rfl rfl ?_)))
               ·refine VMv.load rfl rfl rfl (VLoad.boxA rfl rfl rfl (by rfl) (leR (by rfl)) (by decide)) ?_
                refine VAny.movesI (is := [26]) (by kernel_rfl) (by simp) rfl (all1 ?_)
                ·refine VMv.load rfl rfl rfl (VLoad.boxA rfl rfl rfl (by rfl) (leR (by rfl)) (by decide)) ?_
                 refine VAny.movesI (is := [28]) (by kernel_rfl) (by simp) rfl (all1 ?_)
                 ·refine VMv.pure rfl rfl Try.func25 rfl rfl rfl rfl rfl rfl rfl rfl (kgram_v g hg) ?_
                  refine VAny.pureI (i := 29) rfl rfl (by kernel_rfl) rfl (VPure.pick_t rfl rfl rfl) ?_
                  refine VAny.pureI (i := 30) rfl rfl (by kernel_rfl) rfl (VPure.move rfl rfl) ?_
                  refine VAny.pureI (i := 31) rfl rfl (by kernel_rfl) rfl (VPure.move rfl rfl) ?_
                  refine VAny.pureI (i := 32) rfl rfl (by kernel_rfl) rfl (VPure.move rfl rfl) ?_
                  refine VAny.movesI (is := [33]) (by kernel_rfl) (by simp) rfl (all1 ?_)
                  ·refine VMv.pure rfl rfl Try.func17 rfl rfl rfl rfl rfl rfl rfl rfl (spots_t w (by omega)) ?_
                   refine VAny.pureI (i := 34) rfl rfl (by kernel_rfl) rfl (VPure.pick_t rfl rfl rfl) ?_
                   refine VAny.pureI (i := 35) rfl rfl (by kernel_rfl) rfl (VPure.move rfl rfl) ?_
                   refine VAny.movesI (is := [36]) (by kernel_rfl) (by simp) rfl (all1 ?_)
                   ·refine VMv.pure rfl rfl Try.func29 rfl rfl rfl rfl rfl rfl rfl rfl (ewakes_v) ?_
                    refine VAny.pureI (i := 37) rfl rfl (by kernel_rfl) rfl (VPure.pick_t rfl rfl rfl) ?_
                    refine VAny.pureI (i := 38) rfl rfl (by kernel_rfl) rfl (VPure.assign rfl rfl) ?_
                    refine VAny.done ?_
                    (refine Less.mk (l := []) hcx ?ss ?hh rfl (by decide) rfl rfl; (case ss => repeat (first | exact SubS.nil | refine SubS.cons rfl rfl ?_ | refine SubS.cons (ciI (by omega)) rfl ?_ | refine SubS.cons (ciB (by assumption)) rfl ?_)); (case hh => repeat (first | exact SubH.nil | refine SubH.cons rfl rfl rfl ?_)))
           ·refine VMv.load rfl rfl rfl (VLoad.boxA rfl rfl rfl (by rfl) (leR (by rfl)) (by decide)) ?_
            refine VAny.movesI (is := [19]) (by kernel_rfl) (by simp) rfl (all1 ?_)
            ·refine VMv.oo rfl rfl rfl rfl (VOp.gives rfl Try.func33 rfl rfl rfl rfl rfl rfl (both_v g w hg (by omega)) rfl) ?_
             refine VAny.movesI (is := [22]) (by kernel_rfl) (by simp) rfl (all1 ?_)
             ·refine VMv.oo rfl rfl rfl rfl (VOp.gives rfl Try.func31 rfl rfl rfl rfl rfl rfl (t3) rfl) ?_
              refine VAny.movesI (is := [23]) (by kernel_rfl) (by simp) rfl (all1 ?_)
              ·refine VMv.pure rfl rfl Try.func16 rfl rfl rfl rfl rfl rfl rfl rfl (bools_t (eachOf g w soB) hL3) ?_
               refine VAny.pureI (i := 24) rfl rfl (by kernel_rfl) rfl (VPure.pick_t rfl rfl rfl) ?_
               refine VAny.pureI (i := 25) rfl rfl (by kernel_rfl) rfl (VPure.move rfl rfl) ?_
               refine VAny.movesI (is := [26, 27]) (by kernel_rfl) (by simp) rfl (allC ?_ (all1 ?_))
               ·refine VMv.load rfl rfl rfl (VLoad.boxA rfl rfl rfl (by rfl) (leR (by rfl)) (by decide)) ?_
                refine VAny.movesI (is := [27]) (by kernel_rfl) (by simp) rfl (all1 ?_)
                ·refine VMv.load rfl rfl rfl (VLoad.boxA rfl rfl rfl (by rfl) (leR (by rfl)) (by decide)) ?_
                 refine VAny.movesI (is := [28]) (by kernel_rfl) (by simp) rfl (all1 ?_)
                 ·refine VMv.pure rfl rfl Try.func25 rfl rfl rfl rfl rfl rfl rfl rfl (kgram_v g hg) ?_
                  refine VAny.pureI (i := 29) rfl rfl (by kernel_rfl) rfl (VPure.pick_t rfl rfl rfl) ?_
                  refine VAny.pureI (i := 30) rfl rfl (by kernel_rfl) rfl (VPure.move rfl rfl) ?_
                  refine VAny.pureI (i := 31) rfl rfl (by kernel_rfl) rfl (VPure.move rfl rfl) ?_
                  refine VAny.pureI (i := 32) rfl rfl (by kernel_rfl) rfl (VPure.move rfl rfl) ?_
                  refine VAny.movesI (is := [33]) (by kernel_rfl) (by simp) rfl (all1 ?_)
                  ·refine VMv.pure rfl rfl Try.func17 rfl rfl rfl rfl rfl rfl rfl rfl (spots_t w (by omega)) ?_
                   refine VAny.pureI (i := 34) rfl rfl (by kernel_rfl) rfl (VPure.pick_t rfl rfl rfl) ?_
                   refine VAny.pureI (i := 35) rfl rfl (by kernel_rfl) rfl (VPure.move rfl rfl) ?_
                   refine VAny.movesI (is := [36]) (by kernel_rfl) (by simp) rfl (all1 ?_)
                   ·refine VMv.pure rfl rfl Try.func29 rfl rfl rfl rfl rfl rfl rfl rfl (ewakes_v) ?_
                    refine VAny.pureI (i := 37) rfl rfl (by kernel_rfl) rfl (VPure.pick_t rfl rfl rfl) ?_
                    refine VAny.pureI (i := 38) rfl rfl (by kernel_rfl) rfl (VPure.assign rfl rfl) ?_
                    refine VAny.done ?_
                    (refine Less.mk (l := []) hcx ?ss ?hh rfl (by decide) rfl rfl; (case ss => repeat (first | exact SubS.nil | refine SubS.cons rfl rfl ?_ | refine SubS.cons (ciI (by omega)) rfl ?_ | refine SubS.cons (ciB (by assumption)) rfl ?_)); (case hh => repeat (first | exact SubH.nil | refine SubH.cons rfl rfl rfl ?_)))
               ·refine VMv.load rfl rfl rfl (VLoad.boxA rfl rfl rfl (by rfl) (leR (by rfl)) (by decide)) ?_
                refine VAny.movesI (is := [26]) (by kernel_rfl) (by simp) rfl (all1 ?_)
                ·refine VMv.load rfl rfl rfl (VLoad.boxA rfl rfl rfl (by rfl) (leR (by rfl)) (by decide)) ?_
                 refine VAny.movesI (is := [28]) (by kernel_rfl) (by simp) rfl (all1 ?_)
                 ·refine VMv.pure rfl rfl Try.func25 rfl rfl rfl rfl rfl rfl rfl rfl (kgram_v g hg) ?_
                  refine VAny.pureI (i := 29) rfl rfl (by kernel_rfl) rfl (VPure.pick_t rfl rfl rfl) ?_
                  refine VAny.pureI (i := 30) rfl rfl (by kernel_rfl) rfl (VPure.move rfl rfl) ?_
                  refine VAny.pureI (i := 31) rfl rfl (by kernel_rfl) rfl (VPure.move rfl rfl) ?_
                  refine VAny.pureI (i := 32) rfl rfl (by kernel_rfl) rfl (VPure.move rfl rfl) ?_
                  refine VAny.movesI (is := [33]) (by kernel_rfl) (by simp) rfl (all1 ?_)
                  ·refine VMv.pure rfl rfl Try.func17 rfl rfl rfl rfl rfl rfl rfl rfl (spots_t w (by omega)) ?_
                   refine VAny.pureI (i := 34) rfl rfl (by kernel_rfl) rfl (VPure.pick_t rfl rfl rfl) ?_
                   refine VAny.pureI (i := 35) rfl rfl (by kernel_rfl) rfl (VPure.move rfl rfl) ?_
                   refine VAny.movesI (is := [36]) (by kernel_rfl) (by simp) rfl (all1 ?_)
                   ·refine VMv.pure rfl rfl Try.func29 rfl rfl rfl rfl rfl rfl rfl rfl (ewakes_v) ?_
                    refine VAny.pureI (i := 37) rfl rfl (by kernel_rfl) rfl (VPure.pick_t rfl rfl rfl) ?_
                    refine VAny.pureI (i := 38) rfl rfl (by kernel_rfl) rfl (VPure.assign rfl rfl) ?_
                    refine VAny.done ?_
                    (refine Less.mk (l := []) hcx ?ss ?hh rfl (by decide) rfl rfl; (case ss => repeat (first | exact SubS.nil | refine SubS.cons rfl rfl ?_ | refine SubS.cons (ciI (by omega)) rfl ?_ | refine SubS.cons (ciB (by assumption)) rfl ?_)); (case hh => repeat (first | exact SubH.nil | refine SubH.cons rfl rfl rfl ?_)))
          ·refine VMv.load rfl rfl rfl (VLoad.boxA rfl rfl rfl (by rfl) (leR (by rfl)) (by decide)) ?_
           refine VAny.movesI (is := [17]) (by kernel_rfl) (by simp) rfl (all1 ?_)
           ·refine VMv.load rfl rfl rfl (VLoad.boxA rfl rfl rfl (by rfl) (leR (by rfl)) (by decide)) ?_
            refine VAny.movesI (is := [19]) (by kernel_rfl) (by simp) rfl (all1 ?_)
            ·refine VMv.oo rfl rfl rfl rfl (VOp.gives rfl Try.func33 rfl rfl rfl rfl rfl rfl (both_v g w hg (by omega)) rfl) ?_
             refine VAny.movesI (is := [22]) (by kernel_rfl) (by simp) rfl (all1 ?_)
             ·refine VMv.oo rfl rfl rfl rfl (VOp.gives rfl Try.func31 rfl rfl rfl rfl rfl rfl (t3) rfl) ?_
              refine VAny.movesI (is := [23]) (by kernel_rfl) (by simp) rfl (all1 ?_)
              ·refine VMv.pure rfl rfl Try.func16 rfl rfl rfl rfl rfl rfl rfl rfl (bools_t (eachOf g w soB) hL3) ?_
               refine VAny.pureI (i := 24) rfl rfl (by kernel_rfl) rfl (VPure.pick_t rfl rfl rfl) ?_
               refine VAny.pureI (i := 25) rfl rfl (by kernel_rfl) rfl (VPure.move rfl rfl) ?_
               refine VAny.movesI (is := [26, 27]) (by kernel_rfl) (by simp) rfl (allC ?_ (all1 ?_))
               ·refine VMv.load rfl rfl rfl (VLoad.boxA rfl rfl rfl (by rfl) (leR (by rfl)) (by decide)) ?_
                refine VAny.movesI (is := [27]) (by kernel_rfl) (by simp) rfl (all1 ?_)
                ·refine VMv.load rfl rfl rfl (VLoad.boxA rfl rfl rfl (by rfl) (leR (by rfl)) (by decide)) ?_
                 refine VAny.movesI (is := [28]) (by kernel_rfl) (by simp) rfl (all1 ?_)
                 ·refine VMv.pure rfl rfl Try.func25 rfl rfl rfl rfl rfl rfl rfl rfl (kgram_v g hg) ?_
                  refine VAny.pureI (i := 29) rfl rfl (by kernel_rfl) rfl (VPure.pick_t rfl rfl rfl) ?_
                  refine VAny.pureI (i := 30) rfl rfl (by kernel_rfl) rfl (VPure.move rfl rfl) ?_
                  refine VAny.pureI (i := 31) rfl rfl (by kernel_rfl) rfl (VPure.move rfl rfl) ?_
                  refine VAny.pureI (i := 32) rfl rfl (by kernel_rfl) rfl (VPure.move rfl rfl) ?_
                  refine VAny.movesI (is := [33]) (by kernel_rfl) (by simp) rfl (all1 ?_)
                  ·refine VMv.pure rfl rfl Try.func17 rfl rfl rfl rfl rfl rfl rfl rfl (spots_t w (by omega)) ?_
                   refine VAny.pureI (i := 34) rfl rfl (by kernel_rfl) rfl (VPure.pick_t rfl rfl rfl) ?_
                   refine VAny.pureI (i := 35) rfl rfl (by kernel_rfl) rfl (VPure.move rfl rfl) ?_
                   refine VAny.movesI (is := [36]) (by kernel_rfl) (by simp) rfl (all1 ?_)
                   ·refine VMv.pure rfl rfl Try.func29 rfl rfl rfl rfl rfl rfl rfl rfl (ewakes_v) ?_
                    refine VAny.pureI (i := 37) rfl rfl (by kernel_rfl) rfl (VPure.pick_t rfl rfl rfl) ?_
                    refine VAny.pureI (i := 38) rfl rfl (by kernel_rfl) rfl (VPure.assign rfl rfl) ?_
                    refine VAny.done ?_
                    (refine Less.mk (l := []) hcx ?ss ?hh rfl (by decide) rfl rfl; (case ss => repeat (first | exact SubS.nil | refine SubS.cons rfl rfl ?_ | refine SubS.cons (ciI (by omega)) rfl ?_ | refine SubS.cons (ciB (by assumption)) rfl ?_)); (case hh => repeat (first | exact SubH.nil | refine SubH.cons rfl rfl rfl ?_)))
               ·refine VMv.load rfl rfl rfl (VLoad.boxA rfl rfl rfl (by rfl) (leR (by rfl)) (by decide)) ?_
                refine VAny.movesI (is := [26]) (by kernel_rfl) (by simp) rfl (all1 ?_)
                ·refine VMv.load rfl rfl rfl (VLoad.boxA rfl rfl rfl (by rfl) (leR (by rfl)) (by decide)) ?_
                 refine VAny.movesI (is := [28]) (by kernel_rfl) (by simp) rfl (all1 ?_)
                 ·refine VMv.pure rfl rfl Try.func25 rfl rfl rfl rfl rfl rfl rfl rfl (kgram_v g hg) ?_
                  refine VAny.pureI (i := 29) rfl rfl (by kernel_rfl) rfl (VPure.pick_t rfl rfl rfl) ?_
                  refine VAny.pureI (i := 30) rfl rfl (by kernel_rfl) rfl (VPure.move rfl rfl) ?_
                  refine VAny.pureI (i := 31) rfl rfl (by kernel_rfl) rfl (VPure.move rfl rfl) ?_
                  refine VAny.pureI (i := 32) rfl rfl (by kernel_rfl) rfl (VPure.move rfl rfl) ?_
                  refine VAny.movesI (is := [33]) (by kernel_rfl) (by simp) rfl (all1 ?_)
                  ·refine VMv.pure rfl rfl Try.func17 rfl rfl rfl rfl rfl rfl rfl rfl (spots_t w (by omega)) ?_
                   refine VAny.pureI (i := 34) rfl rfl (by kernel_rfl) rfl (VPure.pick_t rfl rfl rfl) ?_
                   refine VAny.pureI (i := 35) rfl rfl (by kernel_rfl) rfl (VPure.move rfl rfl) ?_
                   refine VAny.movesI (is := [36]) (by kernel_rfl) (by simp) rfl (all1 ?_)
                   ·refine VMv.pure rfl rfl Try.func29 rfl rfl rfl rfl rfl rfl rfl rfl (ewakes_v) ?_
                    refine VAny.pureI (i := 37) rfl rfl (by kernel_rfl) rfl (VPure.pick_t rfl rfl rfl) ?_
                    refine VAny.pureI (i := 38) rfl rfl (by kernel_rfl) rfl (VPure.assign rfl rfl) ?_
                    refine VAny.done ?_
                    (refine Less.mk (l := []) hcx ?ss ?hh rfl (by decide) rfl rfl; (case ss => repeat (first | exact SubS.nil | refine SubS.cons rfl rfl ?_ | refine SubS.cons (ciI (by omega)) rfl ?_ | refine SubS.cons (ciB (by assumption)) rfl ?_)); (case hh => repeat (first | exact SubH.nil | refine SubH.cons rfl rfl rfl ?_)))
      ·refine VMv.load rfl rfl rfl (VLoad.boxA rfl rfl rfl (by rfl) (leR (by rfl)) (by decide)) ?_
       refine VAny.movesI (is := [10]) (by kernel_rfl) (by simp) rfl (all1 ?_)
       ·refine VMv.oo rfl rfl rfl rfl (VOp.gives rfl Try.func32 rfl rfl rfl rfl rfl rfl (right_v g w hg (by omega)) rfl) ?_
        refine VAny.movesI (is := [13]) (by kernel_rfl) (by simp) rfl (all1 ?_)
        ·refine VMv.oo rfl rfl rfl rfl (VOp.gives rfl Try.func31 rfl rfl rfl rfl rfl rfl (t2) rfl) ?_
         refine VAny.movesI (is := [14]) (by kernel_rfl) (by simp) rfl (all1 ?_)
         ·refine VMv.pure rfl rfl Try.func16 rfl rfl rfl rfl rfl rfl rfl rfl (bools_t (eachOf g w soR) hL2) ?_
          refine VAny.pureI (i := 15) rfl rfl (by kernel_rfl) rfl (VPure.pick_t rfl rfl rfl) ?_
          refine VAny.pureI (i := 16) rfl rfl (by kernel_rfl) rfl (VPure.move rfl rfl) ?_
          refine VAny.pureI (i := 18) rfl rfl (by kernel_rfl) rfl (VPure.move rfl rfl) ?_
          refine VAny.pureI (i := 21) rfl rfl (by kernel_rfl) rfl (VPure.move rfl rfl) ?_
          refine VAny.movesI (is := [17, 20]) (by kernel_rfl) (by simp) rfl (allC ?_ (all1 ?_))
          ·refine VMv.load rfl rfl rfl (VLoad.boxA rfl rfl rfl (by rfl) (leR (by rfl)) (by decide)) ?_
           refine VAny.movesI (is := [19, 20]) (by kernel_rfl) (by simp) rfl (allC ?_ (all1 ?_))
           ·refine VMv.oo rfl rfl rfl rfl (VOp.gives rfl Try.func33 rfl rfl rfl rfl rfl rfl (both_v g w hg (by omega)) rfl) ?_
            refine VAny.movesI (is := [20]) (by kernel_rfl) (by simp) rfl (all1 ?_)
            ·refine VMv.load rfl rfl rfl (VLoad.boxA rfl rfl rfl (by rfl) (leR (by rfl)) (by decide)) ?_
             refine VAny.movesI (is := [22]) (by kernel_rfl) (by simp) rfl (all1 ?_)
             ·refine VMv.oo rfl rfl rfl rfl (VOp.gives rfl Try.func31 rfl rfl rfl rfl rfl rfl (t3) rfl) ?_
              refine VAny.movesI (is := [23]) (by kernel_rfl) (by simp) rfl (all1 ?_)
              ·refine VMv.pure rfl rfl Try.func16 rfl rfl rfl rfl rfl rfl rfl rfl (bools_t (eachOf g w soB) hL3) ?_
               refine VAny.pureI (i := 24) rfl rfl (by kernel_rfl) rfl (VPure.pick_t rfl rfl rfl) ?_
               refine VAny.pureI (i := 25) rfl rfl (by kernel_rfl) rfl (VPure.move rfl rfl) ?_
               refine VAny.movesI (is := [26, 27]) (by kernel_rfl) (by simp) rfl (allC ?_ (all1 ?_))
               ·refine VMv.load rfl rfl rfl (VLoad.boxA rfl rfl rfl (by rfl) (leR (by rfl)) (by decide)) ?_
                refine VAny.movesI (is := [27]) (by kernel_rfl) (by simp) rfl (all1 ?_)
                ·refine VMv.load rfl rfl rfl (VLoad.boxA rfl rfl rfl (by rfl) (leR (by rfl)) (by decide)) ?_
                 refine VAny.movesI (is := [28]) (by kernel_rfl) (by simp) rfl (all1 ?_)
                 ·refine VMv.pure rfl rfl Try.func25 rfl rfl rfl rfl rfl rfl rfl rfl (kgram_v g hg) ?_
                  refine VAny.pureI (i := 29) rfl rfl (by kernel_rfl) rfl (VPure.pick_t rfl rfl rfl) ?_
                  refine VAny.pureI (i := 30) rfl rfl (by kernel_rfl) rfl (VPure.move rfl rfl) ?_
                  refine VAny.pureI (i := 31) rfl rfl (by kernel_rfl) rfl (VPure.move rfl rfl) ?_
                  refine VAny.pureI (i := 32) rfl rfl (by kernel_rfl) rfl (VPure.move rfl rfl) ?_
                  refine VAny.movesI (is := [33]) (by kernel_rfl) (by simp) rfl (all1 ?_)
                  ·refine VMv.pure rfl rfl Try.func17 rfl rfl rfl rfl rfl rfl rfl rfl (spots_t w (by omega)) ?_
                   refine VAny.pureI (i := 34) rfl rfl (by kernel_rfl) rfl (VPure.pick_t rfl rfl rfl) ?_
                   refine VAny.pureI (i := 35) rfl rfl (by kernel_rfl) rfl (VPure.move rfl rfl) ?_
                   refine VAny.movesI (is := [36]) (by kernel_rfl) (by simp) rfl (all1 ?_)
                   ·refine VMv.pure rfl rfl Try.func29 rfl rfl rfl rfl rfl rfl rfl rfl (ewakes_v) ?_
                    refine VAny.pureI (i := 37) rfl rfl (by kernel_rfl) rfl (VPure.pick_t rfl rfl rfl) ?_
                    refine VAny.pureI (i := 38) rfl rfl (by kernel_rfl) rfl (VPure.assign rfl rfl) ?_
                    refine VAny.done ?_
                    (refine Less.mk (l := []) hcx ?ss ?hh rfl (by decide) rfl rfl; (case ss => repeat (first | exact SubS.nil | refine SubS.cons rfl rfl ?_ | refine SubS.cons (ciI (by omega)) rfl ?_ | refine SubS.cons (ciB (by assumption)) rfl ?_)); (case hh => repeat (first | exact SubH.nil | refine SubH.cons rfl rfl rfl ?_)))
               ·refine VMv.load rfl rfl rfl (VLoad.boxA rfl rfl rfl (by rfl) (leR (by rfl)) (by decide)) ?_
                refine VAny.movesI (is := [26]) (by kernel_rfl) (by simp) rfl (all1 ?_)
                ·refine VMv.load rfl rfl rfl (VLoad.boxA rfl rfl rfl (by rfl) (leR (by rfl)) (by decide)) ?_
                 refine VAny.movesI (is := [28]) (by kernel_rfl) (by simp) rfl (all1 ?_)
                 ·refine VMv.pure rfl rfl Try.func25 rfl rfl rfl rfl rfl rfl rfl rfl (kgram_v g hg) ?_
                  refine VAny.pureI (i := 29) rfl rfl (by kernel_rfl) rfl (VPure.pick_t rfl rfl rfl) ?_
                  refine VAny.pureI (i := 30) rfl rfl (by kernel_rfl) rfl (VPure.move rfl rfl) ?_
                  refine VAny.pureI (i := 31) rfl rfl (by kernel_rfl) rfl (VPure.move rfl rfl) ?_
                  refine VAny.pureI (i := 32) rfl rfl (by kernel_rfl) rfl (VPure.move rfl rfl) ?_
                  refine VAny.movesI (is := [33]) (by kernel_rfl) (by simp) rfl (all1 ?_)
                  ·refine VMv.pure rfl rfl Try.func17 rfl rfl rfl rfl rfl rfl rfl rfl (spots_t w (by omega)) ?_
                   refine VAny.pureI (i := 34) rfl rfl (by kernel_rfl) rfl (VPure.pick_t rfl rfl rfl) ?_
                   refine VAny.pureI (i := 35) rfl rfl (by kernel_rfl) rfl (VPure.move rfl rfl) ?_
                   refine VAny.movesI (is := [36]) (by kernel_rfl) (by simp) rfl (all1 ?_)
                   ·refine VMv.pure rfl rfl Try.func29 rfl rfl rfl rfl rfl rfl rfl rfl (ewakes_v) ?_
                    refine VAny.pureI (i := 37) rfl rfl (by kernel_rfl) rfl (VPure.pick_t rfl rfl rfl) ?_
                    refine VAny.pureI (i := 38) rfl rfl (by kernel_rfl) rfl (VPure.assign rfl rfl) ?_
                    refine VAny.done ?_
                    (refine Less.mk (l := []) hcx ?ss ?hh rfl (by decide) rfl rfl; (case ss => repeat (first | exact SubS.nil | refine SubS.cons rfl rfl ?_ | refine SubS.cons (ciI (by omega)) rfl ?_ | refine SubS.cons (ciB (by assumption)) rfl ?_)); (case hh => repeat (first | exact SubH.nil | refine SubH.cons rfl rfl rfl ?_)))
           ·refine VMv.load rfl rfl rfl (VLoad.boxA rfl rfl rfl (by rfl) (leR (by rfl)) (by decide)) ?_
            refine VAny.movesI (is := [19]) (by kernel_rfl) (by simp) rfl (all1 ?_)
            ·refine VMv.oo rfl rfl rfl rfl (VOp.gives rfl Try.func33 rfl rfl rfl rfl rfl rfl (both_v g w hg (by omega)) rfl) ?_
             refine VAny.movesI (is := [22]) (by kernel_rfl) (by simp) rfl (all1 ?_)
             ·refine VMv.oo rfl rfl rfl rfl (VOp.gives rfl Try.func31 rfl rfl rfl rfl rfl rfl (t3) rfl) ?_
              refine VAny.movesI (is := [23]) (by kernel_rfl) (by simp) rfl (all1 ?_)
              ·refine VMv.pure rfl rfl Try.func16 rfl rfl rfl rfl rfl rfl rfl rfl (bools_t (eachOf g w soB) hL3) ?_
               refine VAny.pureI (i := 24) rfl rfl (by kernel_rfl) rfl (VPure.pick_t rfl rfl rfl) ?_
               refine VAny.pureI (i := 25) rfl rfl (by kernel_rfl) rfl (VPure.move rfl rfl) ?_
               refine VAny.movesI (is := [26, 27]) (by kernel_rfl) (by simp) rfl (allC ?_ (all1 ?_))
               ·refine VMv.load rfl rfl rfl (VLoad.boxA rfl rfl rfl (by rfl) (leR (by rfl)) (by decide)) ?_
                refine VAny.movesI (is := [27]) (by kernel_rfl) (by simp) rfl (all1 ?_)
                ·refine VMv.load rfl rfl rfl (VLoad.boxA rfl rfl rfl (by rfl) (leR (by rfl)) (by decide)) ?_
                 refine VAny.movesI (is := [28]) (by kernel_rfl) (by simp) rfl (all1 ?_)
                 ·refine VMv.pure rfl rfl Try.func25 rfl rfl rfl rfl rfl rfl rfl rfl (kgram_v g hg) ?_
                  refine VAny.pureI (i := 29) rfl rfl (by kernel_rfl) rfl (VPure.pick_t rfl rfl rfl) ?_
                  refine VAny.pureI (i := 30) rfl rfl (by kernel_rfl) rfl (VPure.move rfl rfl) ?_
                  refine VAny.pureI (i := 31) rfl rfl (by kernel_rfl) rfl (VPure.move rfl rfl) ?_
                  refine VAny.pureI (i := 32) rfl rfl (by kernel_rfl) rfl (VPure.move rfl rfl) ?_
                  refine VAny.movesI (is := [33]) (by kernel_rfl) (by simp) rfl (all1 ?_)
                  ·refine VMv.pure rfl rfl Try.func17 rfl rfl rfl rfl rfl rfl rfl rfl (spots_t w (by omega)) ?_
                   refine VAny.pureI (i := 34) rfl rfl (by kernel_rfl) rfl (VPure.pick_t rfl rfl rfl) ?_
                   refine VAny.pureI (i := 35) rfl rfl (by kernel_rfl) rfl (VPure.move rfl rfl) ?_
                   refine VAny.movesI (is := [36]) (by kernel_rfl) (by simp) rfl (all1 ?_)
                   ·refine VMv.pure rfl rfl Try.func29 rfl rfl rfl rfl rfl rfl rfl rfl (ewakes_v) ?_
                    refine VAny.pureI (i := 37) rfl rfl (by kernel_rfl) rfl (VPure.pick_t rfl rfl rfl) ?_
                    refine VAny.pureI (i := 38) rfl rfl (by kernel_rfl) rfl (VPure.assign rfl rfl) ?_
                    refine VAny.done ?_
                    (refine Less.mk (l := []) hcx ?ss ?hh rfl (by decide) rfl rfl; (case ss => repeat (first | exact SubS.nil | refine SubS.cons rfl rfl ?_ | refine SubS.cons (ciI (by omega)) rfl ?_ | refine SubS.cons (ciB (by assumption)) rfl ?_)); (case hh => repeat (first | exact SubH.nil | refine SubH.cons rfl rfl rfl ?_)))
               ·refine VMv.load rfl rfl rfl (VLoad.boxA rfl rfl rfl (by rfl) (leR (by rfl)) (by decide)) ?_
                refine VAny.movesI (is := [26]) (by kernel_rfl) (by simp) rfl (all1 ?_)
                ·refine VMv.load rfl rfl rfl (VLoad.boxA rfl rfl rfl (by rfl) (leR (by rfl)) (by decide)) ?_
                 refine VAny.movesI (is := [28]) (by kernel_rfl) (by simp) rfl (all1 ?_)
                 ·refine VMv.pure rfl rfl Try.func25 rfl rfl rfl rfl rfl rfl rfl rfl (kgram_v g hg) ?_
                  refine VAny.pureI (i := 29) rfl rfl (by kernel_rfl) rfl (VPure.pick_t rfl rfl rfl) ?_
                  refine VAny.pureI (i := 30) rfl rfl (by kernel_rfl) rfl (VPure.move rfl rfl) ?_
                  refine VAny.pureI (i := 31) rfl rfl (by kernel_rfl) rfl (VPure.move rfl rfl) ?_
                  refine VAny.pureI (i := 32) rfl rfl (by kernel_rfl) rfl (VPure.move rfl rfl) ?_
                  refine VAny.movesI (is := [33]) (by kernel_rfl) (by simp) rfl (all1 ?_)
                  ·refine VMv.pure rfl rfl Try.func17 rfl rfl rfl rfl rfl rfl rfl rfl (spots_t w (by omega)) ?_
                   refine VAny.pureI (i := 34) rfl rfl (by kernel_rfl) rfl (VPure.pick_t rfl rfl rfl) ?_
                   refine VAny.pureI (i := 35) rfl rfl (by kernel_rfl) rfl (VPure.move rfl rfl) ?_
                   refine VAny.movesI (is := [36]) (by kernel_rfl) (by simp) rfl (all1 ?_)
                   ·refine VMv.pure rfl rfl Try.func29 rfl rfl rfl rfl rfl rfl rfl rfl (ewakes_v) ?_
                    refine VAny.pureI (i := 37) rfl rfl (by kernel_rfl) rfl (VPure.pick_t rfl rfl rfl) ?_
                    refine VAny.pureI (i := 38) rfl rfl (by kernel_rfl) rfl (VPure.assign rfl rfl) ?_
                    refine VAny.done ?_
                    (refine Less.mk (l := []) hcx ?ss ?hh rfl (by decide) rfl rfl; (case ss => repeat (first | exact SubS.nil | refine SubS.cons rfl rfl ?_ | refine SubS.cons (ciI (by omega)) rfl ?_ | refine SubS.cons (ciB (by assumption)) rfl ?_)); (case hh => repeat (first | exact SubH.nil | refine SubH.cons rfl rfl rfl ?_)))
          ·refine VMv.load rfl rfl rfl (VLoad.boxA rfl rfl rfl (by rfl) (leR (by rfl)) (by decide)) ?_
           refine VAny.movesI (is := [17]) (by kernel_rfl) (by simp) rfl (all1 ?_)
           ·refine VMv.load rfl rfl rfl (VLoad.boxA rfl rfl rfl (by rfl) (leR (by rfl)) (by decide)) ?_
            refine VAny.movesI (is := [19]) (by kernel_rfl) (by simp) rfl (all1 ?_)
            ·refine VMv.oo rfl rfl rfl rfl (VOp.gives rfl Try.func33 rfl rfl rfl rfl rfl rfl (both_v g w hg (by omega)) rfl) ?_
             refine VAny.movesI (is := [22]) (by kernel_rfl) (by simp) rfl (all1 ?_)
             ·refine VMv.oo rfl rfl rfl rfl (VOp.gives rfl Try.func31 rfl rfl rfl rfl rfl rfl (t3) rfl) ?_
              refine VAny.movesI (is := [23]) (by kernel_rfl) (by simp) rfl (all1 ?_)
              ·refine VMv.pure rfl rfl Try.func16 rfl rfl rfl rfl rfl rfl rfl rfl (bools_t (eachOf g w soB) hL3) ?_
               refine VAny.pureI (i := 24) rfl rfl (by kernel_rfl) rfl (VPure.pick_t rfl rfl rfl) ?_
               refine VAny.pureI (i := 25) rfl rfl (by kernel_rfl) rfl (VPure.move rfl rfl) ?_
               refine VAny.movesI (is := [26, 27]) (by kernel_rfl) (by simp) rfl (allC ?_ (all1 ?_))
               ·refine VMv.load rfl rfl rfl (VLoad.boxA rfl rfl rfl (by rfl) (leR (by rfl)) (by decide)) ?_
                refine VAny.movesI (is := [27]) (by kernel_rfl) (by simp) rfl (all1 ?_)
                ·refine VMv.load rfl rfl rfl (VLoad.boxA rfl rfl rfl (by rfl) (leR (by rfl)) (by decide)) ?_
                 refine VAny.movesI (is := [28]) (by kernel_rfl) (by simp) rfl (all1 ?_)
                 ·refine VMv.pure rfl rfl Try.func25 rfl rfl rfl rfl rfl rfl rfl rfl (kgram_v g hg) ?_
                  refine VAny.pureI (i := 29) rfl rfl (by kernel_rfl) rfl (VPure.pick_t rfl rfl rfl) ?_
                  refine VAny.pureI (i := 30) rfl rfl (by kernel_rfl) rfl (VPure.move rfl rfl) ?_
                  refine VAny.pureI (i := 31) rfl rfl (by kernel_rfl) rfl (VPure.move rfl rfl) ?_
                  refine VAny.pureI (i := 32) rfl rfl (by kernel_rfl) rfl (VPure.move rfl rfl) ?_
                  refine VAny.movesI (is := [33]) (by kernel_rfl) (by simp) rfl (all1 ?_)
                  ·refine VMv.pure rfl rfl Try.func17 rfl rfl rfl rfl rfl rfl rfl rfl (spots_t w (by omega)) ?_
                   refine VAny.pureI (i := 34) rfl rfl (by kernel_rfl) rfl (VPure.pick_t rfl rfl rfl) ?_
                   refine VAny.pureI (i := 35) rfl rfl (by kernel_rfl) rfl (VPure.move rfl rfl) ?_
                   refine VAny.movesI (is := [36]) (by kernel_rfl) (by simp) rfl (all1 ?_)
                   ·refine VMv.pure rfl rfl Try.func29 rfl rfl rfl rfl rfl rfl rfl rfl (ewakes_v) ?_
                    refine VAny.pureI (i := 37) rfl rfl (by kernel_rfl) rfl (VPure.pick_t rfl rfl rfl) ?_
                    refine VAny.pureI (i := 38) rfl rfl (by kernel_rfl) rfl (VPure.assign rfl rfl) ?_
                    refine VAny.done ?_
                    (refine Less.mk (l := []) hcx ?ss ?hh rfl (by decide) rfl rfl; (case ss => repeat (first | exact SubS.nil | refine SubS.cons rfl rfl ?_ | refine SubS.cons (ciI (by omega)) rfl ?_ | refine SubS.cons (ciB (by assumption)) rfl ?_)); (case hh => repeat (first | exact SubH.nil | refine SubH.cons rfl rfl rfl ?_)))
               ·refine VMv.load rfl rfl rfl (VLoad.boxA rfl rfl rfl (by rfl) (leR (by rfl)) (by decide)) ?_
                refine VAny.movesI (is := [26]) (by kernel_rfl) (by simp) rfl (all1 ?_)
                ·refine VMv.load rfl rfl rfl (VLoad.boxA rfl rfl rfl (by rfl) (leR (by rfl)) (by decide)) ?_
                 refine VAny.movesI (is := [28]) (by kernel_rfl) (by simp) rfl (all1 ?_)
                 ·refine VMv.pure rfl rfl Try.func25 rfl rfl rfl rfl rfl rfl rfl rfl (kgram_v g hg) ?_
                  refine VAny.pureI (i := 29) rfl rfl (by kernel_rfl) rfl (VPure.pick_t rfl rfl rfl) ?_
                  refine VAny.pureI (i := 30) rfl rfl (by kernel_rfl) rfl (VPure.move rfl rfl) ?_
                  refine VAny.pureI (i := 31) rfl rfl (by kernel_rfl) rfl (VPure.move rfl rfl) ?_
                  refine VAny.pureI (i := 32) rfl rfl (by kernel_rfl) rfl (VPure.move rfl rfl) ?_
                  refine VAny.movesI (is := [33]) (by kernel_rfl) (by simp) rfl (all1 ?_)
                  ·refine VMv.pure rfl rfl Try.func17 rfl rfl rfl rfl rfl rfl rfl rfl (spots_t w (by omega)) ?_
                   refine VAny.pureI (i := 34) rfl rfl (by kernel_rfl) rfl (VPure.pick_t rfl rfl rfl) ?_
                   refine VAny.pureI (i := 35) rfl rfl (by kernel_rfl) rfl (VPure.move rfl rfl) ?_
                   refine VAny.movesI (is := [36]) (by kernel_rfl) (by simp) rfl (all1 ?_)
                   ·refine VMv.pure rfl rfl Try.func29 rfl rfl rfl rfl rfl rfl rfl rfl (ewakes_v) ?_
                    refine VAny.pureI (i := 37) rfl rfl (by kernel_rfl) rfl (VPure.pick_t rfl rfl rfl) ?_
                    refine VAny.pureI (i := 38) rfl rfl (by kernel_rfl) rfl (VPure.assign rfl rfl) ?_
                    refine VAny.done ?_
                    (refine Less.mk (l := []) hcx ?ss ?hh rfl (by decide) rfl rfl; (case ss => repeat (first | exact SubS.nil | refine SubS.cons rfl rfl ?_ | refine SubS.cons (ciI (by omega)) rfl ?_ | refine SubS.cons (ciB (by assumption)) rfl ?_)); (case hh => repeat (first | exact SubH.nil | refine SubH.cons rfl rfl rfl ?_)))
     ·refine VMv.load rfl rfl rfl (VLoad.boxA rfl rfl rfl (by rfl) (leR (by rfl)) (by decide)) ?_
      refine VAny.movesI (is := [8]) (by kernel_rfl) (by simp) rfl (all1 ?_)
      ·refine VMv.load rfl rfl rfl (VLoad.boxA rfl rfl rfl (by rfl) (leR (by rfl)) (by decide)) ?_
       refine VAny.movesI (is := [10]) (by kernel_rfl) (by simp) rfl (all1 ?_)
       ·refine VMv.oo rfl rfl rfl rfl (VOp.gives rfl Try.func32 rfl rfl rfl rfl rfl rfl (right_v g w hg (by omega)) rfl) ?_
        refine VAny.movesI (is := [13]) (by kernel_rfl) (by simp) rfl (all1 ?_)
        ·refine VMv.oo rfl rfl rfl rfl (VOp.gives rfl Try.func31 rfl rfl rfl rfl rfl rfl (t2) rfl) ?_
         refine VAny.movesI (is := [14]) (by kernel_rfl) (by simp) rfl (all1 ?_)
         ·refine VMv.pure rfl rfl Try.func16 rfl rfl rfl rfl rfl rfl rfl rfl (bools_t (eachOf g w soR) hL2) ?_
          refine VAny.pureI (i := 15) rfl rfl (by kernel_rfl) rfl (VPure.pick_t rfl rfl rfl) ?_
          refine VAny.pureI (i := 16) rfl rfl (by kernel_rfl) rfl (VPure.move rfl rfl) ?_
          refine VAny.pureI (i := 18) rfl rfl (by kernel_rfl) rfl (VPure.move rfl rfl) ?_
          refine VAny.pureI (i := 21) rfl rfl (by kernel_rfl) rfl (VPure.move rfl rfl) ?_
          refine VAny.movesI (is := [17, 20]) (by kernel_rfl) (by simp) rfl (allC ?_ (all1 ?_))
          ·refine VMv.load rfl rfl rfl (VLoad.boxA rfl rfl rfl (by rfl) (leR (by rfl)) (by decide)) ?_
           refine VAny.movesI (is := [19, 20]) (by kernel_rfl) (by simp) rfl (allC ?_ (all1 ?_))
           ·refine VMv.oo rfl rfl rfl rfl (VOp.gives rfl Try.func33 rfl rfl rfl rfl rfl rfl (both_v g w hg (by omega)) rfl) ?_
            refine VAny.movesI (is := [20]) (by kernel_rfl) (by simp) rfl (all1 ?_)
            ·refine VMv.load rfl rfl rfl (VLoad.boxA rfl rfl rfl (by rfl) (leR (by rfl)) (by decide)) ?_
             refine VAny.movesI (is := [22]) (by kernel_rfl) (by simp) rfl (all1 ?_)
             ·refine VMv.oo rfl rfl rfl rfl (VOp.gives rfl Try.func31 rfl rfl rfl rfl rfl rfl (t3) rfl) ?_
              refine VAny.movesI (is := [23]) (by kernel_rfl) (by simp) rfl (all1 ?_)
              ·refine VMv.pure rfl rfl Try.func16 rfl rfl rfl rfl rfl rfl rfl rfl (bools_t (eachOf g w soB) hL3) ?_
               refine VAny.pureI (i := 24) rfl rfl (by kernel_rfl) rfl (VPure.pick_t rfl rfl rfl) ?_
               refine VAny.pureI (i := 25) rfl rfl (by kernel_rfl) rfl (VPure.move rfl rfl) ?_
               refine VAny.movesI (is := [26, 27]) (by kernel_rfl) (by simp) rfl (allC ?_ (all1 ?_))
               ·refine VMv.load rfl rfl rfl (VLoad.boxA rfl rfl rfl (by rfl) (leR (by rfl)) (by decide)) ?_
                refine VAny.movesI (is := [27]) (by kernel_rfl) (by simp) rfl (all1 ?_)
                ·refine VMv.load rfl rfl rfl (VLoad.boxA rfl rfl rfl (by rfl) (leR (by rfl)) (by decide)) ?_
                 refine VAny.movesI (is := [28]) (by kernel_rfl) (by simp) rfl (all1 ?_)
                 ·refine VMv.pure rfl rfl Try.func25 rfl rfl rfl rfl rfl rfl rfl rfl (kgram_v g hg) ?_
                  refine VAny.pureI (i := 29) rfl rfl (by kernel_rfl) rfl (VPure.pick_t rfl rfl rfl) ?_
                  refine VAny.pureI (i := 30) rfl rfl (by kernel_rfl) rfl (VPure.move rfl rfl) ?_
                  refine VAny.pureI (i := 31) rfl rfl (by kernel_rfl) rfl (VPure.move rfl rfl) ?_
                  refine VAny.pureI (i := 32) rfl rfl (by kernel_rfl) rfl (VPure.move rfl rfl) ?_
                  refine VAny.movesI (is := [33]) (by kernel_rfl) (by simp) rfl (all1 ?_)
                  ·refine VMv.pure rfl rfl Try.func17 rfl rfl rfl rfl rfl rfl rfl rfl (spots_t w (by omega)) ?_
                   refine VAny.pureI (i := 34) rfl rfl (by kernel_rfl) rfl (VPure.pick_t rfl rfl rfl) ?_
                   refine VAny.pureI (i := 35) rfl rfl (by kernel_rfl) rfl (VPure.move rfl rfl) ?_
                   refine VAny.movesI (is := [36]) (by kernel_rfl) (by simp) rfl (all1 ?_)
                   ·refine VMv.pure rfl rfl Try.func29 rfl rfl rfl rfl rfl rfl rfl rfl (ewakes_v) ?_
                    refine VAny.pureI (i := 37) rfl rfl (by kernel_rfl) rfl (VPure.pick_t rfl rfl rfl) ?_
                    refine VAny.pureI (i := 38) rfl rfl (by kernel_rfl) rfl (VPure.assign rfl rfl) ?_
                    refine VAny.done ?_
                    (refine Less.mk (l := []) hcx ?ss ?hh rfl (by decide) rfl rfl; (case ss => repeat (first | exact SubS.nil | refine SubS.cons rfl rfl ?_ | refine SubS.cons (ciI (by omega)) rfl ?_ | refine SubS.cons (ciB (by assumption)) rfl ?_)); (case hh => repeat (first | exact SubH.nil | refine SubH.cons rfl rfl rfl ?_)))
               ·refine VMv.load rfl rfl rfl (VLoad.boxA rfl rfl rfl (by rfl) (leR (by rfl)) (by decide)) ?_
                refine VAny.movesI (is := [26]) (by kernel_rfl) (by simp) rfl (all1 ?_)
                ·refine VMv.load rfl rfl rfl (VLoad.boxA rfl rfl rfl (by rfl) (leR (by rfl)) (by decide)) ?_
                 refine VAny.movesI (is := [28]) (by kernel_rfl) (by simp) rfl (all1 ?_)
                 ·refine VMv.pure rfl rfl Try.func25 rfl rfl rfl rfl rfl rfl rfl rfl (kgram_v g hg) ?_
                  refine VAny.pureI (i := 29) rfl rfl (by kernel_rfl) rfl (VPure.pick_t rfl rfl rfl) ?_
                  refine VAny.pureI (i := 30) rfl rfl (by kernel_rfl) rfl (VPure.move rfl rfl) ?_
                  refine VAny.pureI (i := 31) rfl rfl (by kernel_rfl) rfl (VPure.move rfl rfl) ?_
                  refine VAny.pureI (i := 32) rfl rfl (by kernel_rfl) rfl (VPure.move rfl rfl) ?_
                  refine VAny.movesI (is := [33]) (by kernel_rfl) (by simp) rfl (all1 ?_)
                  ·refine VMv.pure rfl rfl Try.func17 rfl rfl rfl rfl rfl rfl rfl rfl (spots_t w (by omega)) ?_
                   refine VAny.pureI (i := 34) rfl rfl (by kernel_rfl) rfl (VPure.pick_t rfl rfl rfl) ?_
                   refine VAny.pureI (i := 35) rfl rfl (by kernel_rfl) rfl (VPure.move rfl rfl) ?_
                   refine VAny.movesI (is := [36]) (by kernel_rfl) (by simp) rfl (all1 ?_)
                   ·refine VMv.pure rfl rfl Try.func29 rfl rfl rfl rfl rfl rfl rfl rfl (ewakes_v) ?_
                    refine VAny.pureI (i := 37) rfl rfl (by kernel_rfl) rfl (VPure.pick_t rfl rfl rfl) ?_
                    refine VAny.pureI (i := 38) rfl rfl (by kernel_rfl) rfl (VPure.assign rfl rfl) ?_
                    refine VAny.done ?_
                    (refine Less.mk (l := []) hcx ?ss ?hh rfl (by decide) rfl rfl; (case ss => repeat (first | exact SubS.nil | refine SubS.cons rfl rfl ?_ | refine SubS.cons (ciI (by omega)) rfl ?_ | refine SubS.cons (ciB (by assumption)) rfl ?_)); (case hh => repeat (first | exact SubH.nil | refine SubH.cons rfl rfl rfl ?_)))
           ·refine VMv.load rfl rfl rfl (VLoad.boxA rfl rfl rfl (by rfl) (leR (by rfl)) (by decide)) ?_
            refine VAny.movesI (is := [19]) (by kernel_rfl) (by simp) rfl (all1 ?_)
            ·refine VMv.oo rfl rfl rfl rfl (VOp.gives rfl Try.func33 rfl rfl rfl rfl rfl rfl (both_v g w hg (by omega)) rfl) ?_
             refine VAny.movesI (is := [22]) (by kernel_rfl) (by simp) rfl (all1 ?_)
             ·refine VMv.oo rfl rfl rfl rfl (VOp.gives rfl Try.func31 rfl rfl rfl rfl rfl rfl (t3) rfl) ?_
              refine VAny.movesI (is := [23]) (by kernel_rfl) (by simp) rfl (all1 ?_)
              ·refine VMv.pure rfl rfl Try.func16 rfl rfl rfl rfl rfl rfl rfl rfl (bools_t (eachOf g w soB) hL3) ?_
               refine VAny.pureI (i := 24) rfl rfl (by kernel_rfl) rfl (VPure.pick_t rfl rfl rfl) ?_
               refine VAny.pureI (i := 25) rfl rfl (by kernel_rfl) rfl (VPure.move rfl rfl) ?_
               refine VAny.movesI (is := [26, 27]) (by kernel_rfl) (by simp) rfl (allC ?_ (all1 ?_))
               ·refine VMv.load rfl rfl rfl (VLoad.boxA rfl rfl rfl (by rfl) (leR (by rfl)) (by decide)) ?_
                refine VAny.movesI (is := [27]) (by kernel_rfl) (by simp) rfl (all1 ?_)
                ·refine VMv.load rfl rfl rfl (VLoad.boxA rfl rfl rfl (by rfl) (leR (by rfl)) (by decide)) ?_
                 refine VAny.movesI (is := [28]) (by kernel_rfl) (by simp) rfl (all1 ?_)
                 ·refine VMv.pure rfl rfl Try.func25 rfl rfl rfl rfl rfl rfl rfl rfl (kgram_v g hg) ?_
                  refine VAny.pureI (i := 29) rfl rfl (by kernel_rfl) rfl (VPure.pick_t rfl rfl rfl) ?_
                  refine VAny.pureI (i := 30) rfl rfl (by kernel_rfl) rfl (VPure.move rfl rfl) ?_
                  refine VAny.pureI (i := 31) rfl rfl (by kernel_rfl) rfl (VPure.move rfl rfl) ?_
                  refine VAny.pureI (i := 32) rfl rfl (by kernel_rfl) rfl (VPure.move rfl rfl) ?_
                  refine VAny.movesI (is := [33]) (by kernel_rfl) (by simp) rfl (all1 ?_)
                  ·refine VMv.pure rfl rfl Try.func17 rfl rfl rfl rfl rfl rfl rfl rfl (spots_t w (by omega)) ?_
                   refine VAny.pureI (i := 34) rfl rfl (by kernel_rfl) rfl (VPure.pick_t rfl rfl rfl) ?_
                   refine VAny.pureI (i := 35) rfl rfl (by kernel_rfl) rfl (VPure.move rfl rfl) ?_
                   refine VAny.movesI (is := [36]) (by kernel_rfl) (by simp) rfl (all1 ?_)
                   ·refine VMv.pure rfl rfl Try.func29 rfl rfl rfl rfl rfl rfl rfl rfl (ewakes_v) ?_
                    refine VAny.pureI (i := 37) rfl rfl (by kernel_rfl) rfl (VPure.pick_t rfl rfl rfl) ?_
                    refine VAny.pureI (i := 38) rfl rfl (by kernel_rfl) rfl (VPure.assign rfl rfl) ?_
                    refine VAny.done ?_
                    (refine Less.mk (l := []) hcx ?ss ?hh rfl (by decide) rfl rfl; (case ss => repeat (first | exact SubS.nil | refine SubS.cons rfl rfl ?_ | refine SubS.cons (ciI (by omega)) rfl ?_ | refine SubS.cons (ciB (by assumption)) rfl ?_)); (case hh => repeat (first | exact SubH.nil | refine SubH.cons rfl rfl rfl ?_)))
               ·refine VMv.load rfl rfl rfl (VLoad.boxA rfl rfl rfl (by rfl) (leR (by rfl)) (by decide)) ?_
                refine VAny.movesI (is := [26]) (by kernel_rfl) (by simp) rfl (all1 ?_)
                ·refine VMv.load rfl rfl rfl (VLoad.boxA rfl rfl rfl (by rfl) (leR (by rfl)) (by decide)) ?_
                 refine VAny.movesI (is := [28]) (by kernel_rfl) (by simp) rfl (all1 ?_)
                 ·refine VMv.pure rfl rfl Try.func25 rfl rfl rfl rfl rfl rfl rfl rfl (kgram_v g hg) ?_
                  refine VAny.pureI (i := 29) rfl rfl (by kernel_rfl) rfl (VPure.pick_t rfl rfl rfl) ?_
                  refine VAny.pureI (i := 30) rfl rfl (by kernel_rfl) rfl (VPure.move rfl rfl) ?_
                  refine VAny.pureI (i := 31) rfl rfl (by kernel_rfl) rfl (VPure.move rfl rfl) ?_
                  refine VAny.pureI (i := 32) rfl rfl (by kernel_rfl) rfl (VPure.move rfl rfl) ?_
                  refine VAny.movesI (is := [33]) (by kernel_rfl) (by simp) rfl (all1 ?_)
                  ·refine VMv.pure rfl rfl Try.func17 rfl rfl rfl rfl rfl rfl rfl rfl (spots_t w (by omega)) ?_
                   refine VAny.pureI (i := 34) rfl rfl (by kernel_rfl) rfl (VPure.pick_t rfl rfl rfl) ?_
                   refine VAny.pureI (i := 35) rfl rfl (by kernel_rfl) rfl (VPure.move rfl rfl) ?_
                   refine VAny.movesI (is := [36]) (by kernel_rfl) (by simp) rfl (all1 ?_)
                   ·refine VMv.pure rfl rfl Try.func29 rfl rfl rfl rfl rfl rfl rfl rfl (ewakes_v) ?_
                    refine VAny.pureI (i := 37) rfl rfl (by kernel_rfl) rfl (VPure.pick_t rfl rfl rfl) ?_
                    refine VAny.pureI (i := 38) rfl rfl (by kernel_rfl) rfl (VPure.assign rfl rfl) ?_
                    refine VAny.done ?_
                    (refine Less.mk (l := []) hcx ?ss ?hh rfl (by decide) rfl rfl; (case ss => repeat (first | exact SubS.nil | refine SubS.cons rfl rfl ?_ | refine SubS.cons (ciI (by omega)) rfl ?_ | refine SubS.cons (ciB (by assumption)) rfl ?_)); (case hh => repeat (first | exact SubH.nil | refine SubH.cons rfl rfl rfl ?_)))
          ·refine VMv.load rfl rfl rfl (VLoad.boxA rfl rfl rfl (by rfl) (leR (by rfl)) (by decide)) ?_
           refine VAny.movesI (is := [17]) (by kernel_rfl) (by simp) rfl (all1 ?_)
           ·refine VMv.load rfl rfl rfl (VLoad.boxA rfl rfl rfl (by rfl) (leR (by rfl)) (by decide)) ?_
            refine VAny.movesI (is := [19]) (by kernel_rfl) (by simp) rfl (all1 ?_)
            ·refine VMv.oo rfl rfl rfl rfl (VOp.gives rfl Try.func33 rfl rfl rfl rfl rfl rfl (both_v g w hg (by omega)) rfl) ?_
             refine VAny.movesI (is := [22]) (by kernel_rfl) (by simp) rfl (all1 ?_)
             ·refine VMv.oo rfl rfl rfl rfl (VOp.gives rfl Try.func31 rfl rfl rfl rfl rfl rfl (t3) rfl) ?_
              refine VAny.movesI (is := [23]) (by kernel_rfl) (by simp) rfl (all1 ?_)
              ·refine VMv.pure rfl rfl Try.func16 rfl rfl rfl rfl rfl rfl rfl rfl (bools_t (eachOf g w soB) hL3) ?_
               refine VAny.pureI (i := 24) rfl rfl (by kernel_rfl) rfl (VPure.pick_t rfl rfl rfl) ?_
               refine VAny.pureI (i := 25) rfl rfl (by kernel_rfl) rfl (VPure.move rfl rfl) ?_
               refine VAny.movesI (is := [26, 27]) (by kernel_rfl) (by simp) rfl (allC ?_ (all1 ?_))
               ·refine VMv.load rfl rfl rfl (VLoad.boxA rfl rfl rfl (by rfl) (leR (by rfl)) (by decide)) ?_
                refine VAny.movesI (is := [27]) (by kernel_rfl) (by simp) rfl (all1 ?_)
                ·refine VMv.load rfl rfl rfl (VLoad.boxA rfl rfl rfl (by rfl) (leR (by rfl)) (by decide)) ?_
                 refine VAny.movesI (is := [28]) (by kernel_rfl) (by simp) rfl (all1 ?_)
                 ·refine VMv.pure rfl rfl Try.func25 rfl rfl rfl rfl rfl rfl rfl rfl (kgram_v g hg) ?_
                  refine VAny.pureI (i := 29) rfl rfl (by kernel_rfl) rfl (VPure.pick_t rfl rfl rfl) ?_
                  refine VAny.pureI (i := 30) rfl rfl (by kernel_rfl) rfl (VPure.move rfl rfl) ?_
                  refine VAny.pureI (i := 31) rfl rfl (by kernel_rfl) rfl (VPure.move rfl rfl) ?_
                  refine VAny.pureI (i := 32) rfl rfl (by kernel_rfl) rfl (VPure.move rfl rfl) ?_
                  refine VAny.movesI (is := [33]) (by kernel_rfl) (by simp) rfl (all1 ?_)
                  ·refine VMv.pure rfl rfl Try.func17 rfl rfl rfl rfl rfl rfl rfl rfl (spots_t w (by omega)) ?_
                   refine VAny.pureI (i := 34) rfl rfl (by kernel_rfl) rfl (VPure.pick_t rfl rfl rfl) ?_
                   refine VAny.pureI (i := 35) rfl rfl (by kernel_rfl) rfl (VPure.move rfl rfl) ?_
                   refine VAny.movesI (is := [36]) (by kernel_rfl) (by simp) rfl (all1 ?_)
                   ·refine VMv.pure rfl rfl Try.func29 rfl rfl rfl rfl rfl rfl rfl rfl (ewakes_v) ?_
                    refine VAny.pureI (i := 37) rfl rfl (by kernel_rfl) rfl (VPure.pick_t rfl rfl rfl) ?_
                    refine VAny.pureI (i := 38) rfl rfl (by kernel_rfl) rfl (VPure.assign rfl rfl) ?_
                    refine VAny.done ?_
                    (refine Less.mk (l := []) hcx ?ss ?hh rfl (by decide) rfl rfl; (case ss => repeat (first | exact SubS.nil | refine SubS.cons rfl rfl ?_ | refine SubS.cons (ciI (by omega)) rfl ?_ | refine SubS.cons (ciB (by assumption)) rfl ?_)); (case hh => repeat (first | exact SubH.nil | refine SubH.cons rfl rfl rfl ?_)))
               ·refine VMv.load rfl rfl rfl (VLoad.boxA rfl rfl rfl (by rfl) (leR (by rfl)) (by decide)) ?_
                refine VAny.movesI (is := [26]) (by kernel_rfl) (by simp) rfl (all1 ?_)
                ·refine VMv.load rfl rfl rfl (VLoad.boxA rfl rfl rfl (by rfl) (leR (by rfl)) (by decide)) ?_
                 refine VAny.movesI (is := [28]) (by kernel_rfl) (by simp) rfl (all1 ?_)
                 ·refine VMv.pure rfl rfl Try.func25 rfl rfl rfl rfl rfl rfl rfl rfl (kgram_v g hg) ?_
                  refine VAny.pureI (i := 29) rfl rfl (by kernel_rfl) rfl (VPure.pick_t rfl rfl rfl) ?_
                  refine VAny.pureI (i := 30) rfl rfl (by kernel_rfl) rfl (VPure.move rfl rfl) ?_
                  refine VAny.pureI (i := 31) rfl rfl (by kernel_rfl) rfl (VPure.move rfl rfl) ?_
                  refine VAny.pureI (i := 32) rfl rfl (by kernel_rfl) rfl (VPure.move rfl rfl) ?_
                  refine VAny.movesI (is := [33]) (by kernel_rfl) (by simp) rfl (all1 ?_)
                  ·refine VMv.pure rfl rfl Try.func17 rfl rfl rfl rfl rfl rfl rfl rfl (spots_t w (by omega)) ?_
                   refine VAny.pureI (i := 34) rfl rfl (by kernel_rfl) rfl (VPure.pick_t rfl rfl rfl) ?_
                   refine VAny.pureI (i := 35) rfl rfl (by kernel_rfl) rfl (VPure.move rfl rfl) ?_
                   refine VAny.movesI (is := [36]) (by kernel_rfl) (by simp) rfl (all1 ?_)
                   ·refine VMv.pure rfl rfl Try.func29 rfl rfl rfl rfl rfl rfl rfl rfl (ewakes_v) ?_
                    refine VAny.pureI (i := 37) rfl rfl (by kernel_rfl) rfl (VPure.pick_t rfl rfl rfl) ?_
                    refine VAny.pureI (i := 38) rfl rfl (by kernel_rfl) rfl (VPure.assign rfl rfl) ?_
                    refine VAny.done ?_
                    (refine Less.mk (l := []) hcx ?ss ?hh rfl (by decide) rfl rfl; (case ss => repeat (first | exact SubS.nil | refine SubS.cons rfl rfl ?_ | refine SubS.cons (ciI (by omega)) rfl ?_ | refine SubS.cons (ciB (by assumption)) rfl ?_)); (case hh => repeat (first | exact SubH.nil | refine SubH.cons rfl rfl rfl ?_)))
 refine VCode.retD rfl rfl (.tmp rfl .nil) ?_
 rfl
theorem etells_law (g : Gr) (gg : goodGr g) (w : List Spot) (gw : goodSps w) : VCalls Try.prog 7 [.agg ((encG g).map D.toV), .sl 2 (w.map encP)] [] 0 (Gives (.val (.bool true))) :=
 have h : reachBytes < 140737488355328 := reachBytes_lt
 etells_v g w (by have := gw.2; omega)
end Go.Proofs.Ytfjfbapiheehaaa.V
end
