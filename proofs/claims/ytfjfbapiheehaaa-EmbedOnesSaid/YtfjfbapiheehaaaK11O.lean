/- What O needs of this session's own texts, part 11: put together by wip/dce.py. -/
import Derived.Test.YtfjfbapiheehaaaK10O
section
set_option linter.unusedVariables false
set_option linter.unusedSimpArgs false
namespace Go.Proofs.Ytfjfbapiheehaaa.V
open Go Go.RowKit Go.Proofs.Ytfjfbapiheehaaa.P Go.Proofs.Ytfjfbapiheehaaa.DG
def eachC (g : Gr) (w : List Spot) (so : Pl → Bool) : List Bool := (List.range g.names.length).map (fun a => (plOf ((restC g w).map (stepOf g)) g.names.length a).any fun p => decide (p.1 = a) && so p)
theorem each_C {g : Gr} (h : GoodG g) (w : List Spot) (so : Pl → Bool) : eachOf g w so = eachC g w so := by
  unfold eachOf
  rw [if_pos h]
  unfold eachC stepsOf
  rw [rest_C h]
def etext : ByteArray := ⟨#[83, 32, 61, 32, 39, 40, 39, 32, 83, 32, 39, 41, 39, 32, 124, 32, 65, 32, 59, 32, 65, 32, 61, 32, 65, 32, 39, 97, 39, 32, 124, 32, 39, 98, 39, 32, 65, 32, 124, 32, 66, 32, 59, 32, 66, 32, 61, 32, 66, 32, 39, 99, 39, 32, 124, 32, 59]⟩
def etoks : List Tok := [⟨1, ⟨#[83]⟩, 0⟩, ⟨3, ⟨#[61]⟩, 2⟩, ⟨2, ⟨#[40]⟩, 4⟩, ⟨1, ⟨#[83]⟩, 8⟩, ⟨2, ⟨#[41]⟩, 10⟩, ⟨4, ⟨#[124]⟩, 14⟩, ⟨1, ⟨#[65]⟩, 16⟩, ⟨5, ⟨#[59]⟩, 18⟩, ⟨1, ⟨#[65]⟩, 20⟩, ⟨3, ⟨#[61]⟩, 22⟩, ⟨1, ⟨#[65]⟩, 24⟩, ⟨2, ⟨#[97]⟩, 26⟩, ⟨4, ⟨#[124]⟩, 30⟩, ⟨2, ⟨#[98]⟩, 32⟩, ⟨1, ⟨#[65]⟩, 36⟩, ⟨4, ⟨#[124]⟩, 38⟩, ⟨1, ⟨#[66]⟩, 40⟩, ⟨5, ⟨#[59]⟩, 42⟩, ⟨1, ⟨#[66]⟩, 44⟩, ⟨3, ⟨#[61]⟩, 46⟩, ⟨1, ⟨#[66]⟩, 48⟩, ⟨2, ⟨#[99]⟩, 50⟩, ⟨4, ⟨#[124]⟩, 54⟩, ⟨5, ⟨#[59]⟩, 56⟩]
def ealts : List Alt := [⟨⟨1, ⟨#[83]⟩, 0⟩, [⟨2, ⟨#[40]⟩, 4⟩, ⟨1, ⟨#[83]⟩, 8⟩, ⟨2, ⟨#[41]⟩, 10⟩]⟩, ⟨⟨1, ⟨#[83]⟩, 0⟩, [⟨1, ⟨#[65]⟩, 16⟩]⟩, ⟨⟨1, ⟨#[65]⟩, 20⟩, [⟨1, ⟨#[65]⟩, 24⟩, ⟨2, ⟨#[97]⟩, 26⟩]⟩, ⟨⟨1, ⟨#[65]⟩, 20⟩, [⟨2, ⟨#[98]⟩, 32⟩, ⟨1, ⟨#[65]⟩, 36⟩]⟩, ⟨⟨1, ⟨#[65]⟩, 20⟩, [⟨1, ⟨#[66]⟩, 40⟩]⟩, ⟨⟨1, ⟨#[66]⟩, 44⟩, [⟨1, ⟨#[66]⟩, 48⟩, ⟨2, ⟨#[99]⟩, 50⟩]⟩, ⟨⟨1, ⟨#[66]⟩, 44⟩, []⟩]
def eg : Gr := ⟨[⟨#[40]⟩, ⟨#[41]⟩, ⟨#[97]⟩, ⟨#[98]⟩, ⟨#[99]⟩], [⟨#[83]⟩, ⟨#[65]⟩, ⟨#[66]⟩], [⟨5, [0, 5, 1]⟩, ⟨5, [6]⟩, ⟨6, [6, 2]⟩, ⟨6, [3, 6]⟩, ⟨6, [7]⟩, ⟨7, [7, 4]⟩, ⟨7, []⟩]⟩
theorem e_lex : lex_Tokens.f etext = some (etoks, 0, 0) := by kernel_rfl
theorem e_alts : read_Alts.f etoks 57 = some (ealts, 0, 0) := by kernel_rfl
theorem e_g : ofG ealts = eg := by kernel_rfl
theorem of_e : VCalls Try.prog 34 [.val (.string etext)] [] 0 (Gives (.tup [gV eg, fV 0 0])) :=
  of_at (by decide +kernel) e_lex (by decide +kernel) e_alts (by decide +kernel) (by kernel_rfl) (by decide +kernel) (by decide +kernel) (by kernel_rfl) e_g
theorem e_good : GoodG eg := good_of (by kernel_rfl)
theorem e_sized : Sized eg := (small_sized (show largeG eg = false by kernel_rfl)).1
theorem e_left : eachOf eg [] soL = [true, true, false] := by rw [each_C e_good]; kernel_rfl
theorem e_right : eachOf eg [] soR = [true, true, true] := by rw [each_C e_good]; kernel_rfl
theorem e_both : eachOf eg [] soB = [true, true, false] := by rw [each_C e_good]; kernel_rfl
theorem e_both2 : eachOf eg [(0, 1)] soB = [false, true, false] := by rw [each_C e_good]; kernel_rfl
set_option maxHeartbeats 8000000 in
theorem ewakes_v : VCalls Try.prog 29 [] [] 0 (Gives (.val (.bool true))) := by
  refine VCalls.enterD (n := 44) Try.func29 rfl rfl (by simp) rfl (fun cx hcx => ?_)
  (repeat (first | ((with_reducible refine VOps.same ?_); (first | (refine VOps.nil ?_; try dsimp only [VThen, VBlock]) | refine VOps.vp (by rfl) (by kernel_rfl) (by rfl) (VPure.assign rfl rfl) ?_)) | refine VCode.seq ?_ | refine VCode.region rfl ?_))
  refine VOps.gives rfl Try.func34 rfl (by kernel_rfl) rfl rfl rfl rfl rfl rfl rfl rfl (of_e) ?_
  (repeat (first | ((with_reducible refine VOps.same ?_); (first | (refine VOps.nil ?_; try dsimp only [VThen, VBlock]) | refine VOps.vp (by rfl) (by kernel_rfl) (by rfl) (VPure.move rfl rfl) ?_ | refine VOps.vp (by rfl) (by kernel_rfl) (by rfl) (VPure.extract rfl rfl rfl) ?_ | refine VOps.alloc rfl rfl (by kernel_rfl) rfl (by kernel_rfl) rfl ?_ | refine VOps.store rfl rfl (by kernel_rfl) rfl rfl rfl rfl rfl rfl (Nat.le_of_ble_eq_true (by rfl)) rfl ?_)) | refine VCode.seq ?_))
  refine VCode.thenTo ⟨[(3, .sl 1 ([true, true, false].map encB)), (4, .sl 1 ([true, true, true].map encB)), (5, .sl 1 ([true, true, false].map encB)), (1, .ptr 0 0), (2, .ptr 1 0)], [(0, gO eg), (1, .cells 53 [.val (.int .i64 0), .val (.int .i64 0)])], 2⟩ ?_ ?_
  · refine VCode.drawAny [] (by kernel_rfl) rfl ?_
    refine VAny.loadI (i := 0) rfl rfl (by kernel_rfl) rfl (VLoad.boxA rfl rfl rfl (by rfl) (Nat.le_of_ble_eq_true (by rfl)) (by decide)) ?_
    refine VAny.loadI (i := 2) rfl rfl (by kernel_rfl) rfl (VLoad.boxA rfl rfl rfl (by rfl) (Nat.le_of_ble_eq_true (by rfl)) (by decide)) ?_
    refine VAny.loadI (i := 4) rfl rfl (by kernel_rfl) rfl (VLoad.boxA rfl rfl rfl (by rfl) (Nat.le_of_ble_eq_true (by rfl)) (by decide)) ?_
    refine VAny.movesI (is := [1]) (by kernel_rfl) (by simp) rfl (all1 ?_)
    · refine VMv.oo rfl rfl rfl rfl (VOp.gives rfl Try.func30 rfl rfl rfl rfl rfl rfl ((by have := nil2 (left_v eg [] e_sized (by decide)); rw [e_left] at this; exact this)) rfl) ?_
      refine VAny.movesI (is := [3]) (by kernel_rfl) (by simp) rfl (all1 ?_)
      · refine VMv.oo rfl rfl rfl rfl (VOp.gives rfl Try.func32 rfl rfl rfl rfl rfl rfl ((by have := nil2 (right_v eg [] e_sized (by decide)); rw [e_right] at this; exact this)) rfl) ?_
        refine VAny.movesI (is := [5]) (by kernel_rfl) (by simp) rfl (all1 ?_)
        · refine VMv.oo rfl rfl rfl rfl (VOp.gives rfl Try.func33 rfl rfl rfl rfl rfl rfl ((by have := nil2 (both_v eg [] e_sized (by decide)); rw [e_both] at this; exact this)) rfl) ?_
          refine VAny.pureI (i := 6) rfl rfl (by kernel_rfl) rfl (VPure.assign rfl rfl) ?_
          refine VAny.pureI (i := 7) rfl rfl (by kernel_rfl) rfl (VPure.assign rfl rfl) ?_
          refine VAny.pureI (i := 8) rfl rfl (by kernel_rfl) rfl (VPure.assign rfl rfl) ?_
          refine VAny.done ?_
          (refine Less.mk (l := [0, 1]) hcx ?ss ?hh rfl (by decide) rfl rfl; (case ss => repeat (first | exact SubS.nil | refine SubS.cons rfl rfl ?_ | refine SubS.cons (congrArg (fun z => some (V.val (Value.int IntKind.i64 z))) (by omega)) rfl ?_ | refine SubS.cons (congrArg (fun z => some (V.val (Value.bool z))) (by assumption)) rfl ?_)); (case hh => repeat (first | exact SubH.nil | refine SubH.cons rfl rfl rfl ?_)))
  (repeat (first | ((with_reducible refine VOps.same ?_); (first | refine VOps.vv (by rfl) (by kernel_rfl) (by rfl) (VLoad.boxA rfl rfl rfl (by rfl) (Nat.le_of_ble_eq_true (by rfl)) (by decide)) ?_ | refine VOps.vp (by rfl) (by kernel_rfl) (by rfl) (VPure.buildC rfl (by kernel_rfl) rfl (by rfl)) ?_ | refine VOps.one rfl rfl (by kernel_rfl) rfl (by rfl) (by decide) (by decide) rfl (by rfl) (by rfl) ?_)) | refine VCode.seq ?_ | refine VCode.region rfl ?_))
  refine VOps.freeze (id := 2) rfl ?_
  refine VOps.gives rfl Try.func33 rfl (by kernel_rfl) rfl rfl rfl rfl rfl rfl rfl rfl (by have := both_v eg [(0, 1)] e_sized (by decide); rw [e_both2] at this; exact this) ?_
  (repeat (first | ((with_reducible refine VOps.same ?_); (first | (refine VOps.nil ?_; try dsimp only [VThen, VBlock]) | refine VOps.vp (by rfl) (by kernel_rfl) (by rfl) (VPure.move rfl rfl) ?_ | refine VOps.vp (by rfl) (by kernel_rfl) (by rfl) (VPure.assign rfl rfl) ?_ | refine VOps.vp (by rfl) (by kernel_rfl) (by rfl) (VPure.field_ptr rfl rfl rfl) ?_ | refine VOps.vv (by rfl) (by kernel_rfl) (by rfl) (VLoad.box1 rfl rfl rfl rfl (by rfl) (by decide)) ?_ | refine VOps.vp (by rfl) (by kernel_rfl) (by rfl) (VPure.eqi rfl rfl rfl) ?_)) | refine VCode.seq ?_ | refine VCode.region rfl ?_))
  refine VOps.lit (rows := [encB true, encB true, encB false]) rfl rfl (by kernel_rfl) rfl (by kernel_rfl) (by rfl) (by decide) (by decide) rfl (by rfl) (by rfl) (by rfl) (by rfl) ?_
  refine VOps.pure rfl Try.func16 rfl (by kernel_rfl) rfl rfl rfl rfl rfl rfl rfl (bools_v [true, true, false] [true, true, false] (by decide)) ?_
  (repeat (first | ((with_reducible refine VOps.same ?_); (first | refine VOps.vp (by rfl) (by kernel_rfl) (by rfl) (VPure.move rfl rfl) ?_ | refine VOps.vp (by rfl) (by kernel_rfl) (by rfl) (VPure.pick_t rfl rfl rfl) ?_))))
  refine VOps.lit (rows := [encB true, encB true, encB true]) rfl rfl (by kernel_rfl) rfl (by kernel_rfl) (by rfl) (by decide) (by decide) rfl (by rfl) (by rfl) (by rfl) (by rfl) ?_
  refine VOps.pure rfl Try.func16 rfl (by kernel_rfl) rfl rfl rfl rfl rfl rfl rfl (bools_v [true, true, true] [true, true, true] (by decide)) ?_
  (repeat (first | ((with_reducible refine VOps.same ?_); (first | refine VOps.vp (by rfl) (by kernel_rfl) (by rfl) (VPure.move rfl rfl) ?_ | refine VOps.vp (by rfl) (by kernel_rfl) (by rfl) (VPure.pick_t rfl rfl rfl) ?_))))
  refine VOps.lit (rows := [encB true, encB true, encB false]) rfl rfl (by kernel_rfl) rfl (by kernel_rfl) (by rfl) (by decide) (by decide) rfl (by rfl) (by rfl) (by rfl) (by rfl) ?_
  refine VOps.pure rfl Try.func16 rfl (by kernel_rfl) rfl rfl rfl rfl rfl rfl rfl (bools_v [true, true, false] [true, true, false] (by decide)) ?_
  (repeat (first | ((with_reducible refine VOps.same ?_); (first | refine VOps.vp (by rfl) (by kernel_rfl) (by rfl) (VPure.move rfl rfl) ?_ | refine VOps.vp (by rfl) (by kernel_rfl) (by rfl) (VPure.pick_t rfl rfl rfl) ?_))))
  refine VOps.lit (rows := [encB false, encB true, encB false]) rfl rfl (by kernel_rfl) rfl (by kernel_rfl) (by rfl) (by decide) (by decide) rfl (by rfl) (by rfl) (by rfl) (by rfl) ?_
  refine VOps.pure rfl Try.func16 rfl (by kernel_rfl) rfl rfl rfl rfl rfl rfl rfl (bools_v [false, true, false] [false, true, false] (by decide)) ?_
  (repeat (first | ((with_reducible refine VOps.same ?_); (first | (refine VOps.nil ?_; try dsimp only [VThen, VBlock]) | refine VOps.vp (by rfl) (by kernel_rfl) (by rfl) (VPure.assign rfl rfl) ?_ | refine VOps.vp (by rfl) (by kernel_rfl) (by rfl) (VPure.pick_t rfl rfl rfl) ?_))))
  refine VCode.retD rfl rfl (.tmp rfl .nil) ?_
  rfl
end Go.Proofs.Ytfjfbapiheehaaa.V
end
section
set_option linter.unusedVariables false
set_option linter.unusedSimpArgs false
namespace Go.Proofs.Ytfjfbapiheehaaa.V
open Go Go.RowKit Go.Proofs.Ytfjfbapiheehaaa.P Go.Proofs.Ytfjfbapiheehaaa.DG
end Go.Proofs.Ytfjfbapiheehaaa.V
end
section
set_option linter.unusedVariables false
set_option linter.unusedSimpArgs false
namespace Go.Proofs.Ytfjfbapiheehaaa.V
open Go Go.RowKit Go.Proofs.Ytfjfbapiheehaaa.DG
section
variable {H : Type} {enc : TypeId × Value → H} {w : World} {spare : Nat → Bool} {held : Bool}
def goodSs (l : List ByteArray) : Prop := (∀ a ∈ l, a.size ≤ reachBytes) ∧ l.length * 16 ≤ reachBytes
theorem open_strs : OpensD enc Try.prog w 0 spare held (fun l : List ByteArray => [.sl 1 (l.map encS)]) 22 goodSs :=
  opensD_slice TI.und' (by kernel_rfl) (by kernel_rfl) (by kernel_rfl) (by decide) (opensD_string TI.und' (by kernel_rfl))
theorem open_i64 : OpensD enc Try.prog w 0 spare held (fun n : Int => [.val (.int .i64 n)]) 3 (fun n => (Lit.int .i64 n).wf = true) := opensD_int TI.und' (by kernel_rfl)
def goodIs (l : List Int) : Prop := (∀ a ∈ l, (Lit.int .i64 a).wf = true) ∧ l.length * 8 ≤ reachBytes
theorem open_ints : OpensD enc Try.prog w 0 spare held (fun l : List Int => [.sl 1 (l.map encI)]) 37 goodIs :=
  opensD_slice TI.und' (by kernel_rfl) (by kernel_rfl) (by kernel_rfl) (by decide) open_i64
def goodRu (r : Ru) : Prop := (Lit.int .i64 r.left).wf = true ∧ goodIs r.right ∧ True
theorem open_rule : OpensD enc Try.prog w 0 spare held encR 46 goodRu :=
  opensD_struct (good := fun p : Int × List Int × Unit => (Lit.int .i64 p.1).wf = true ∧ goodIs p.2.1 ∧ True) (f := fun p : Int × List Int × Unit => [.val (.int .i64 p.1)] ++ ([.sl 1 (p.2.1.map encI)] ++ [])) (g := fun r : Ru => (r.left, r.right, ())) (fun p => ⟨p.1, p.2.1⟩) (fun _ => rfl) (ti46).und (by kernel_rfl)
    (opensF_cons (m := 1) (f := fun n : Int => [.val (.int .i64 n)]) (f' := fun p : List Int × Unit => [.sl 1 (p.1.map encI)] ++ []) (good := fun n : Int => (Lit.int .i64 n).wf = true) (good' := fun p : List Int × Unit => goodIs p.1 ∧ True) rfl (by kernel_rfl) open_i64 (opensF_cons (m := 1) (f := fun l : List Int => [.sl 1 (l.map encI)]) (f' := fun _ : Unit => []) (good := goodIs) (good' := fun _ => True) rfl (by kernel_rfl) open_ints opensF_nil))
def goodRs (l : List Ru) : Prop := (∀ a ∈ l, goodRu a) ∧ l.length * 32 ≤ reachBytes
theorem open_rules : OpensD enc Try.prog w 0 spare held (fun l : List Ru => [.sl 2 (l.map encR)]) 23 goodRs :=
  opensD_slice TI.und' (by kernel_rfl) (by kernel_rfl) (by kernel_rfl) (by decide) open_rule
def encG (g : Gr) : List D := [.sl 1 (g.terms.map encS), .sl 1 (g.names.map encS), .sl 2 (g.rules.map encR)]
def goodGr (g : Gr) : Prop := goodSs g.terms ∧ goodSs g.names ∧ goodRs g.rules ∧ True
theorem open_gr : OpensD enc Try.prog w 0 spare held encG 25 goodGr :=
  opensD_struct (good := fun p : List ByteArray × List ByteArray × List Ru × Unit => goodSs p.1 ∧ goodSs p.2.1 ∧ goodRs p.2.2.1 ∧ True) (f := fun p : List ByteArray × List ByteArray × List Ru × Unit => [.sl 1 (p.1.map encS)] ++ ([.sl 1 (p.2.1.map encS)] ++ ([.sl 2 (p.2.2.1.map encR)] ++ []))) (g := fun g : Gr => (g.terms, g.names, g.rules, ())) (fun p => ⟨p.1, p.2.1, p.2.2.1⟩) (fun _ => rfl) (ti25).und (by kernel_rfl)
    (opensF_cons (m := 1) (f := fun l : List ByteArray => [.sl 1 (l.map encS)]) (f' := fun p : List ByteArray × List Ru × Unit => [.sl 1 (p.1.map encS)] ++ ([.sl 2 (p.2.1.map encR)] ++ [])) (good := goodSs) (good' := fun p : List ByteArray × List Ru × Unit => goodSs p.1 ∧ goodRs p.2.1 ∧ True) rfl (by kernel_rfl) open_strs
      (opensF_cons (m := 1) (f := fun l : List ByteArray => [.sl 1 (l.map encS)]) (f' := fun p : List Ru × Unit => [.sl 2 (p.1.map encR)] ++ []) (good := goodSs) (good' := fun p : List Ru × Unit => goodRs p.1 ∧ True) rfl (by kernel_rfl) open_strs
        (opensF_cons (m := 1) (f := fun l : List Ru => [.sl 2 (l.map encR)]) (f' := fun _ : Unit => []) (good := goodRs) (good' := fun _ => True) rfl (by kernel_rfl) open_rules opensF_nil)))
end
theorem both_iff {g : Gr} (hG : GoodG g) (w : List Spot) {a b : Nat} (ha : a < g.names.length) (hb : b < g.names.length) : bothB (onOf g w) a b = true ↔ Hang g w a b ∧ Hang g w b a := by
  unfold bothB
  rw [Bool.and_eq_true, cell_on hG w ha, cell_on hG w hb]
theorem comp_is (g : Gr) (w : List Spot) (i : Nat) : IsFirst (bothB (onOf g w) i) i (compOf g w i) := firstOf_is _ _
theorem comp_both {g : Gr} (hG : GoodG g) (w : List Spot) {i : Nat} (hi : i < g.names.length) : compOf g w i = i ∨ (Hang g w i (compOf g w i) ∧ Hang g w (compOf g w i) i) := by
  have h := comp_is g w i
  rcases Nat.lt_or_ge (compOf g w i) i with hlt | hge
  · exact .inr ((both_iff hG w hi (by omega)).1 (h.is hlt))
  · exact .inl (by have := h.le; omega)
/-- Two are of one component. -/
def Same (g : Gr) (w : List Spot) (a b : Nat) : Prop := a = b ∨ (Hang g w a b ∧ Hang g w b a)
theorem Same.symm {g : Gr} {w : List Spot} {a b : Nat} (h : Same g w a b) : Same g w b a := by
  rcases h with h | h
  · exact .inl h.symm
  · exact .inr ⟨h.2, h.1⟩
theorem Same.trans {g : Gr} {w : List Spot} {a b c : Nat} (h : Same g w a b) (k : Same g w b c) : Same g w a c := by
  rcases h with rfl | h
  · exact k
  · rcases k with rfl | k
    · exact .inr h
    · exact .inr ⟨h.1.trans k.1, k.2.trans h.2⟩
theorem comp_min {g : Gr} (hG : GoodG g) (w : List Spot) {i b : Nat} (hi : i < g.names.length) (hs : Same g w i b) : compOf g w i ≤ b := by
  have h := comp_is g w i
  rcases Nat.lt_or_ge b (compOf g w i) with hlt | hge
  · have hbi : b < i := by have := h.le; omega
    rcases hs with rfl | hs
    · omega
    · have := h.no b hlt
      rw [(both_iff hG w hi (by omega)).2 hs] at this
      cases this
  · exact hge
theorem comp_eq {g : Gr} (hG : GoodG g) (w : List Spot) {i j : Nat} (hi : i < g.names.length) (hj : j < g.names.length) : compOf g w i = compOf g w j ↔ Same g w i j := by
  have si : Same g w i (compOf g w i) := by rcases comp_both hG w hi with h | h; exact .inl h.symm; exact .inr h
  have sj : Same g w j (compOf g w j) := by rcases comp_both hG w hj with h | h; exact .inl h.symm; exact .inr h
  constructor
  · intro e
    rw [e] at si
    exact si.trans sj.symm
  · intro s
    have h1 := comp_min hG w hi (s.trans sj)
    have h2 := comp_min hG w hj (s.symm.trans si)
    omega
end Go.Proofs.Ytfjfbapiheehaaa.V
end
section
set_option linter.unusedVariables false
set_option linter.unusedSimpArgs false
namespace Go.Proofs.Ytfjfbapiheehaaa.V
open Go Go.RowKit Go.Proofs.Ytfjfbapiheehaaa.DG
theorem isIn_less {a b : List Spot} {x : Spot} (h : x ∉ a ++ b) : x ∉ a := fun k => h (List.mem_append_left _ k)
theorem step_more {g : Gr} {a b : List Spot} {x y : Nat} (h : Step g (a ++ b) x y) : Step g a x y := by
  obtain ⟨z, hz, e⟩ := List.mem_map.1 (show (x, y) ∈ (restS g (a ++ b)).map (edge g) from h)
  obtain ⟨h1, h2⟩ := mem_restS.1 hz
  exact List.mem_map.2 ⟨z, mem_restS.2 ⟨h1, isIn_less h2⟩, e⟩
theorem hang_more {g : Gr} {a b : List Spot} {x y : Nat} (h : Hang g (a ++ b) x y) : Hang g a x y := Path.mono (fun _ _ => step_more) h
theorem step_of {g : Gr} {w : List Spot} {z : Spot} (hz : z ∈ restS g w) : Step g w (edge g z).1 (edge g z).2 := List.mem_map.2 ⟨z, hz, rfl⟩
theorem adv_step {g : Gr} {w : List Spot} {x y : Pl} (h : Adv (stepsOf g w) x y) : Step g w x.1 y.1 := by
  obtain ⟨s, hs, he, rfl⟩ := h
  obtain ⟨z, hz, rfl⟩ := List.mem_map.1 hs
  have := step_of hz
  rw [← he]; exact this
theorem tr_hang {g : Gr} {w : List Spot} {x y : Pl} (h : Tr (Adv (stepsOf g w)) x y) : Hang g w x.1 y.1 := by
  induction h with
  | one e => exact .one (adv_step e)
  | more _ e ih => exact .more ih (adv_step e)
theorem tr_left {g : Gr} {w : List Spot} {x y : Pl} (h : Tr (Adv (stepsOf g w)) x y) (hl : x.2.1 = false) : y.2.1 = true → ∃ z ∈ restS g w, 0 < z.2 ∧ (x.1 = (edge g z).1 ∨ Hang g w x.1 (edge g z).1) ∧ ((edge g z).2 = y.1 ∨ Hang g w (edge g z).2 y.1) := by
  induction h with
  | one e =>
    obtain ⟨s, hs, he, rfl⟩ := e
    obtain ⟨z, hz, rfl⟩ := List.mem_map.1 hs
    intro hy
    exact ⟨z, hz, by simpa [adv, stepOf, hl] using hy, .inl he.symm, .inl rfl⟩
  | @more b c h e ih =>
    have hst := adv_step e
    obtain ⟨s, hs, he, rfl⟩ := e
    obtain ⟨z, hz, rfl⟩ := List.mem_map.1 hs
    intro hy
    by_cases hb : b.2.1 = true
    · obtain ⟨z', hz', h0, h1, h2⟩ := ih hb
      refine ⟨z', hz', h0, h1, .inr ?_⟩
      rcases h2 with h2 | h2
      · rw [h2]; exact .one hst
      · exact .more h2 hst
    · rw [Bool.not_eq_true] at hb
      exact ⟨z, hz, by simpa [adv, stepOf, hb] using hy, .inr (by have := tr_hang h; rw [← he] at this; exact this), .inl rfl⟩
theorem tr_right {g : Gr} {w : List Spot} {x y : Pl} (h : Tr (Adv (stepsOf g w)) x y) (hl : x.2.2 = false) : y.2.2 = true → ∃ z ∈ restS g w, z.2 < (rightLen g z : Int) - 1 ∧ (x.1 = (edge g z).1 ∨ Hang g w x.1 (edge g z).1) ∧ ((edge g z).2 = y.1 ∨ Hang g w (edge g z).2 y.1) := by
  induction h with
  | one e =>
    obtain ⟨s, hs, he, rfl⟩ := e
    obtain ⟨z, hz, rfl⟩ := List.mem_map.1 hs
    intro hy
    exact ⟨z, hz, by simpa [adv, stepOf, hl] using hy, .inl he.symm, .inl rfl⟩
  | @more b c h e ih =>
    have hst := adv_step e
    obtain ⟨s, hs, he, rfl⟩ := e
    obtain ⟨z, hz, rfl⟩ := List.mem_map.1 hs
    intro hy
    by_cases hb : b.2.2 = true
    · obtain ⟨z', hz', h0, h1, h2⟩ := ih hb
      refine ⟨z', hz', h0, h1, .inr ?_⟩
      rcases h2 with h2 | h2
      · rw [h2]; exact .one hst
      · exact .more h2 hst
    · rw [Bool.not_eq_true] at hb
      exact ⟨z, hz, by simpa [adv, stepOf, hb] using hy, .inr (by have := tr_hang h; rw [← he] at this; exact this), .inl rfl⟩
theorem round_inner {g : Gr} (hG : GoodG g) {w m : List Spot} {z : Spot} {a : Nat} (hz : z ∈ restS g (w ++ m)) (h1 : a = (edge g z).1 ∨ Hang g (w ++ m) a (edge g z).1) (h2 : (edge g z).2 = a ∨ Hang g (w ++ m) (edge g z).2 a) : z ∈ innerS g w := by
  have hz' : z ∈ restS g w := mem_restS.2 ⟨(mem_restS.1 hz).1, isIn_less (mem_restS.1 hz).2⟩
  have hlt := edges_lt (List.mem_map.2 ⟨z, hz', rfl⟩ : edge g z ∈ edges g w)
  have hs : Same g w (edge g z).1 (edge g z).2 := by
    have h0 : Hang g w (edge g z).1 (edge g z).2 := .one (step_of hz')
    rcases h1 with h1 | h1 <;> rcases h2 with h2 | h2
    · exact .inl (by omega)
    · exact .inr ⟨h0, by have := hang_more h2; rw [h1] at this; exact this⟩
    · exact .inr ⟨h0, by have := hang_more h1; rw [← h2] at this; exact this⟩
    · exact .inr ⟨h0, (hang_more h2).trans (hang_more h1)⟩
  exact List.mem_filter.2 ⟨hz', decide_eq_true ((comp_eq hG w hlt.1 hlt.2).2 hs)⟩
noncomputable def eC (g : Gr) (w : List Spot) (so : Pl → Bool) (a : Nat) : Bool := (plOf (stepsOf g w) g.names.length a).any fun p => decide (p.1 = a) && so p
theorem eC_iff (g : Gr) (w : List Spot) (so : Pl → Bool) (a : Nat) : eC g w so a = true ↔ ∃ l r, Loop g w a l r ∧ so (a, l, r) = true := each_iff w so a
theorem eC_hang {g : Gr} (hG : GoodG g) {w : List Spot} {a : Nat} (ha : a < g.names.length) {so : Pl → Bool} (h : eC g w so a = true) : cellB (onOf g w) a a = true := by
  obtain ⟨l, r, hl, hs⟩ := (eC_iff ..).1 h
  exact (cell_on hG w ha a).2 (tr_hang hl)
theorem eC_left {g : Gr} (hG : GoodG g) {w m : List Spot} {a : Nat} (h : eC g (w ++ m) soL a = true) : ∃ z ∈ innerS g w, z ∉ m ∧ 0 < z.2 := by
  obtain ⟨l, r, hl, hs⟩ := (eC_iff ..).1 h
  obtain ⟨z, hz, h0, h1, h2⟩ := tr_left hl rfl hs
  exact ⟨z, round_inner hG hz h1 h2, fun k => (mem_restS.1 hz).2 (List.mem_append_right _ k), h0⟩
theorem eC_right {g : Gr} (hG : GoodG g) {w m : List Spot} {a : Nat} (h : eC g (w ++ m) soR a = true) : ∃ z ∈ innerS g w, z ∉ m ∧ z.2 < (rightLen g z : Int) - 1 := by
  obtain ⟨l, r, hl, hs⟩ := (eC_iff ..).1 h
  obtain ⟨z, hz, h0, h1, h2⟩ := tr_right hl rfl hs
  exact ⟨z, round_inner hG hz h1 h2, fun k => (mem_restS.1 hz).2 (List.mem_append_right _ k), h0⟩
theorem eC_get {g : Gr} (hG : GoodG g) (w : List Spot) (so : Pl → Bool) {a : Nat} (ha : a < g.names.length) : (eachOf g w so)[a]? = some (eC g w so a) := eachOf_get hG w so ha
end Go.Proofs.Ytfjfbapiheehaaa.V
end
section
set_option linter.unusedVariables false
set_option linter.unusedSimpArgs false
namespace Go.Proofs.Ytfjfbapiheehaaa.V
open Go Go.RowKit Go.Proofs.Ytfjfbapiheehaaa.DG
section
variable {P : Program} {n : Nat} {cx : Cx} {ops : Array Oper} {K : St → Prop} {E : List PanicEntry → St → Prop} {dl pl : List (Nat × Oper)} {ph : Bool} {m : List Nat} {s : List (Nat × V)} {h : Heap} {x : Nat}
/-- A slot's value, said otherwise, in a region that draws. -/
theorem VAny.says {d : Nat} {v u : V} (hd : lk s d = some u) (e : u = v) (H : VAny P n cx ph m ops K E dl pl ⟨(d, v) :: s, h, x⟩) : VAny P n cx ph m ops K E dl pl ⟨s, h, x⟩ := fun hn hp g a w r =>
  H hn hp g a w (r.same (over_same (by rw [hd, e])))
end
end Go.Proofs.Ytfjfbapiheehaaa.V
end
section
set_option linter.unusedVariables false
set_option linter.unusedSimpArgs false
namespace Go.Proofs.Ytfjfbapiheehaaa.V
open Go Go.RowKit Go.Proofs.Ytfjfbapiheehaaa.DG
section
variable {P : Program} {n : Nat} {cx : Cx} {st : St} {ops : Array Oper} {K : St → Prop} {E : List PanicEntry → St → Prop} {m : List Nat} {dl pl : List (Nat × Oper)}
/-- From here on nobody writes an array: in a region that draws. -/
theorem VAny.frz {id : Nat} {t : TypeId} {sz : Nat} (xs : List (List D)) (hh : lk st.h id = some (.arr t sz xs)) (h : VAny P n cx false m ops K E dl pl ⟨frzS id sz xs st.s, frzH id sz xs st.h, st.x⟩) : VAny P n cx false m ops K E dl pl st :=
  fun hn hp g a w r b hb => h hn hp g a w (r.frz hh) b ⟨hb.s, hb.x, fun i v k hi h1 h2 => hb.m i v k hi (by
    rw [gv_frz] at h1
    split at h1
    · cases h1
    · exact h1) h2⟩
end
section
variable {P : Program} {n : Nat} {cx : Cx} {Q : VExit → St → Prop} {st : St}
/-- A region at a block's end, up to one state, then on from there. -/
theorem VCode.inTo {x y : Code} {id : Nat} (st' : St) (h : VCode P n cx x (VThen (Less cx fun st => st = st') (VBlock id (VThen (fun st => VCode P n cx y Q st) Q))) st) (h2 : VCode P n cx y Q st') : VCode P n cx x (VBlock id (VThen (fun st => VCode P n cx y Q st) Q)) st :=
  h.mono fun e s hq => by
    cases e with
    | normal => exact VCode.less (let ⟨l, s', a, b, c, d⟩ := hq; ⟨l, s', a, b, c, d ▸ h2⟩)
    | exit id => exact hq
    | ret => exact hq
    | panic c => exact hq
end
set_option maxHeartbeats 8000000 in
theorem own_o (g : Gr) (hg : Sized g) : VCalls Try.prog 13 [gV g] [] 0 (Leaves (.agg [.sl 1 (g.terms.map encS), .sl 1 (g.names.map encS), .ref 0]) [(0, .arr 46 2 (g.rules.map encR)), (1, .cells 25 [.sl 1 (g.terms.map encS), .sl 1 (g.names.map encS), .ref 0])] 2) := by
  have ht := hg.terms
  have hn := hg.names
  have hr := hg.rules
  refine VCalls.enterL (n := 42) Try.func13 rfl rfl (by simp) (fun cx hcx => ?_)
  (repeat (first | ((with_reducible refine VOps.same ?_); (first | (refine VOps.nil ?_; try dsimp only [VThen, VBlock]) | refine VOps.alloc rfl rfl (by kernel_rfl) rfl (by kernel_rfl) rfl ?_ | refine VOps.box rfl rfl (by kernel_rfl) rfl rfl rfl rfl ?_)) | refine VCode.seq ?_ | refine VCode.region rfl ?_))
  refine VCode.thenTo ⟨[(1, .ptr 0 0), (2, .ptr 1 0), (3, .ptr 2 0)], [(0, gO g), (1, .cells 25 [.val (.slice none 0 0), .val (.slice none 0 0), .val (.slice none 0 0)]), (2, .cells 25 [.sl 1 (g.terms.map encS), .sl 1 (g.names.map encS), .val (.slice none 0 0)])], 3⟩ ?_ ?_
  · refine VCode.drawAny [2, 3, 4, 5, 6] (by kernel_rfl) rfl ?_
    refine VAny.pureI (i := 1) rfl rfl (by kernel_rfl) rfl (VPure.field_ptr rfl rfl rfl) ?_
    refine VAny.loadI (i := 2) rfl rfl (by kernel_rfl) rfl (VLoad.box1 rfl rfl rfl rfl (by rfl) (by decide)) ?_
    refine VAny.pureI (i := 5) rfl rfl (by kernel_rfl) rfl (VPure.field_ptr rfl rfl rfl) ?_
    refine VAny.loadI (i := 6) rfl rfl (by kernel_rfl) rfl (VLoad.box1 rfl rfl rfl rfl (by rfl) (by decide)) ?_
    refine VAny.movesI (is := [0, 4, 9]) (by kernel_rfl) (by simp) rfl (allC ?_ (allC ?_ (all1 ?_)))
    · refine VMv.lit (rows := []) rfl rfl rfl rfl (by kernel_rfl) (by rfl) (by decide) (by decide) rfl (by rfl) (by rfl) (by rfl) (by rfl) ?_
      refine VAny.movesI (is := [3, 4, 9]) (by kernel_rfl) (by simp) rfl (allC ?_ (allC ?_ (all1 ?_)))
      · refine VMv.append (zs := g.terms.map encS) rfl rfl rfl rfl (by rfl) (by decide) rfl (.arr rfl) rfl rfl (.sl) (by simp only [List.length_append, List.length_cons, List.length_nil, List.length_map]; unfold most; omega) (by simp only [List.length_append, List.length_cons, List.length_nil, List.length_map]; unfold most; omega) rfl ( by simp) ?_
        refine VAny.frz (id := 3) (g.terms.map encS) rfl ?_
        refine VAny.movesI (is := [4, 9]) (by kernel_rfl) (by simp) rfl (allC ?_ (all1 ?_))
        · refine VMv.lit (rows := []) rfl rfl rfl rfl (by kernel_rfl) (by rfl) (by decide) (by decide) rfl (by rfl) (by rfl) (by rfl) (by rfl) ?_
          refine VAny.movesI (is := [7, 9]) (by kernel_rfl) (by simp) rfl (allC ?_ (all1 ?_))
          · refine VMv.append (zs := g.names.map encS) rfl rfl rfl rfl (by rfl) (by decide) rfl (.arr rfl) rfl rfl (.sl) (by simp only [List.length_append, List.length_cons, List.length_nil, List.length_map]; unfold most; omega) (by simp only [List.length_append, List.length_cons, List.length_nil, List.length_map]; unfold most; omega) rfl ( by simp) ?_
            refine VAny.frz (id := 5) (g.names.map encS) rfl ?_
            refine VAny.pureI (i := 8) rfl rfl (by kernel_rfl) rfl (VPure.buildC rfl (by kernel_rfl) rfl (by rfl)) ?_
            refine VAny.movesI (is := [9]) (by kernel_rfl) (by simp) rfl (all1 ?_)
            · refine VMv.alloc rfl rfl rfl rfl (by kernel_rfl) rfl ?_
              refine VAny.movesI (is := [10]) (by kernel_rfl) (by simp) rfl (all1 ?_)
              · refine VMv.store rfl rfl rfl (by rfl) rfl rfl rfl rfl rfl rfl (Nat.le_of_ble_eq_true (by rfl)) rfl ?_
                refine VAny.done ?_
                (refine Less.mk (l := [0, 1, 6]) hcx ?ss ?hh rfl (by decide) rfl rfl; (case ss => repeat (first | exact SubS.nil | refine SubS.cons rfl rfl ?_ | refine SubS.cons (congrArg (fun z => some (V.val (Value.int IntKind.i64 z))) (by omega)) rfl ?_ | refine SubS.cons (congrArg (fun z => some (V.val (Value.bool z))) (by assumption)) rfl ?_)); (case hh => repeat (first | exact SubH.nil | refine SubH.cons rfl rfl rfl ?_)))
          · refine VMv.alloc rfl rfl rfl rfl (by kernel_rfl) rfl ?_
            refine VAny.movesI (is := [7]) (by kernel_rfl) (by simp) rfl (all1 ?_)
            · refine VMv.append (zs := g.names.map encS) rfl rfl rfl rfl (by rfl) (by decide) rfl (.arr rfl) rfl rfl (.sl) (by simp only [List.length_append, List.length_cons, List.length_nil, List.length_map]; unfold most; omega) (by simp only [List.length_append, List.length_cons, List.length_nil, List.length_map]; unfold most; omega) rfl ( by simp) ?_
              refine VAny.frz (id := 6) (g.names.map encS) rfl ?_
              refine VAny.pureI (i := 8) rfl rfl (by kernel_rfl) rfl (VPure.buildC rfl (by kernel_rfl) rfl (by rfl)) ?_
              refine VAny.movesI (is := [10]) (by kernel_rfl) (by simp) rfl (all1 ?_)
              · refine VMv.store rfl rfl rfl (by rfl) rfl rfl rfl rfl rfl rfl (Nat.le_of_ble_eq_true (by rfl)) rfl ?_
                refine VAny.done ?_
                (refine Less.mk (l := [0, 1, 5]) hcx ?ss ?hh rfl (by decide) rfl rfl; (case ss => repeat (first | exact SubS.nil | refine SubS.cons rfl rfl ?_ | refine SubS.cons (congrArg (fun z => some (V.val (Value.int IntKind.i64 z))) (by omega)) rfl ?_ | refine SubS.cons (congrArg (fun z => some (V.val (Value.bool z))) (by assumption)) rfl ?_)); (case hh => repeat (first | exact SubH.nil | refine SubH.cons rfl rfl rfl ?_)))
        · refine VMv.alloc rfl rfl rfl rfl (by kernel_rfl) rfl ?_
          refine VAny.movesI (is := [4]) (by kernel_rfl) (by simp) rfl (all1 ?_)
          · refine VMv.lit (rows := []) rfl rfl rfl rfl (by kernel_rfl) (by rfl) (by decide) (by decide) rfl (by rfl) (by rfl) (by rfl) (by rfl) ?_
            refine VAny.movesI (is := [7]) (by kernel_rfl) (by simp) rfl (all1 ?_)
            · refine VMv.append (zs := g.names.map encS) rfl rfl rfl rfl (by rfl) (by decide) rfl (.arr rfl) rfl rfl (.sl) (by simp only [List.length_append, List.length_cons, List.length_nil, List.length_map]; unfold most; omega) (by simp only [List.length_append, List.length_cons, List.length_nil, List.length_map]; unfold most; omega) rfl ( by simp) ?_
              refine VAny.frz (id := 6) (g.names.map encS) rfl ?_
              refine VAny.pureI (i := 8) rfl rfl (by kernel_rfl) rfl (VPure.buildC rfl (by kernel_rfl) rfl (by rfl)) ?_
              refine VAny.movesI (is := [10]) (by kernel_rfl) (by simp) rfl (all1 ?_)
              · refine VMv.store rfl rfl rfl (by rfl) rfl rfl rfl rfl rfl rfl (Nat.le_of_ble_eq_true (by rfl)) rfl ?_
                refine VAny.done ?_
                (refine Less.mk (l := [0, 1, 4]) hcx ?ss ?hh rfl (by decide) rfl rfl; (case ss => repeat (first | exact SubS.nil | refine SubS.cons rfl rfl ?_ | refine SubS.cons (congrArg (fun z => some (V.val (Value.int IntKind.i64 z))) (by omega)) rfl ?_ | refine SubS.cons (congrArg (fun z => some (V.val (Value.bool z))) (by assumption)) rfl ?_)); (case hh => repeat (first | exact SubH.nil | refine SubH.cons rfl rfl rfl ?_)))
      · refine VMv.lit (rows := []) rfl rfl rfl rfl (by kernel_rfl) (by rfl) (by decide) (by decide) rfl (by rfl) (by rfl) (by rfl) (by rfl) ?_
        refine VAny.movesI (is := [3, 9]) (by kernel_rfl) (by simp) rfl (allC ?_ (all1 ?_))
        · refine VMv.append (zs := g.terms.map encS) rfl rfl rfl rfl (by rfl) (by decide) rfl (.arr rfl) rfl rfl (.sl) (by simp only [List.length_append, List.length_cons, List.length_nil, List.length_map]; unfold most; omega) (by simp only [List.length_append, List.length_cons, List.length_nil, List.length_map]; unfold most; omega) rfl ( by simp) ?_
          refine VAny.frz (id := 4) (g.terms.map encS) rfl ?_
          refine VAny.movesI (is := [7, 9]) (by kernel_rfl) (by simp) rfl (allC ?_ (all1 ?_))
          · refine VMv.append (zs := g.names.map encS) rfl rfl rfl rfl (by rfl) (by decide) rfl (.arr rfl) rfl rfl (.sl) (by simp only [List.length_append, List.length_cons, List.length_nil, List.length_map]; unfold most; omega) (by simp only [List.length_append, List.length_cons, List.length_nil, List.length_map]; unfold most; omega) rfl ( by simp) ?_
            refine VAny.frz (id := 5) (g.names.map encS) rfl ?_
            refine VAny.pureI (i := 8) rfl rfl (by kernel_rfl) rfl (VPure.buildC rfl (by kernel_rfl) rfl (by rfl)) ?_
            refine VAny.movesI (is := [9]) (by kernel_rfl) (by simp) rfl (all1 ?_)
            · refine VMv.alloc rfl rfl rfl rfl (by kernel_rfl) rfl ?_
              refine VAny.movesI (is := [10]) (by kernel_rfl) (by simp) rfl (all1 ?_)
              · refine VMv.store rfl rfl rfl (by rfl) rfl rfl rfl rfl rfl rfl (Nat.le_of_ble_eq_true (by rfl)) rfl ?_
                refine VAny.done ?_
                (refine Less.mk (l := [0, 1, 6]) hcx ?ss ?hh rfl (by decide) rfl rfl; (case ss => repeat (first | exact SubS.nil | refine SubS.cons rfl rfl ?_ | refine SubS.cons (congrArg (fun z => some (V.val (Value.int IntKind.i64 z))) (by omega)) rfl ?_ | refine SubS.cons (congrArg (fun z => some (V.val (Value.bool z))) (by assumption)) rfl ?_)); (case hh => repeat (first | exact SubH.nil | refine SubH.cons rfl rfl rfl ?_)))
          · refine VMv.alloc rfl rfl rfl rfl (by kernel_rfl) rfl ?_
            refine VAny.movesI (is := [7]) (by kernel_rfl) (by simp) rfl (all1 ?_)
            · refine VMv.append (zs := g.names.map encS) rfl rfl rfl rfl (by rfl) (by decide) rfl (.arr rfl) rfl rfl (.sl) (by simp only [List.length_append, List.length_cons, List.length_nil, List.length_map]; unfold most; omega) (by simp only [List.length_append, List.length_cons, List.length_nil, List.length_map]; unfold most; omega) rfl ( by simp) ?_
              refine VAny.frz (id := 6) (g.names.map encS) rfl ?_
              refine VAny.pureI (i := 8) rfl rfl (by kernel_rfl) rfl (VPure.buildC rfl (by kernel_rfl) rfl (by rfl)) ?_
              refine VAny.movesI (is := [10]) (by kernel_rfl) (by simp) rfl (all1 ?_)
              · refine VMv.store rfl rfl rfl (by rfl) rfl rfl rfl rfl rfl rfl (Nat.le_of_ble_eq_true (by rfl)) rfl ?_
                refine VAny.done ?_
                (refine Less.mk (l := [0, 1, 5]) hcx ?ss ?hh rfl (by decide) rfl rfl; (case ss => repeat (first | exact SubS.nil | refine SubS.cons rfl rfl ?_ | refine SubS.cons (congrArg (fun z => some (V.val (Value.int IntKind.i64 z))) (by omega)) rfl ?_ | refine SubS.cons (congrArg (fun z => some (V.val (Value.bool z))) (by assumption)) rfl ?_)); (case hh => repeat (first | exact SubH.nil | refine SubH.cons rfl rfl rfl ?_)))
        · refine VMv.alloc rfl rfl rfl rfl (by kernel_rfl) rfl ?_
          refine VAny.movesI (is := [3]) (by kernel_rfl) (by simp) rfl (all1 ?_)
          · refine VMv.append (zs := g.terms.map encS) rfl rfl rfl rfl (by rfl) (by decide) rfl (.arr rfl) rfl rfl (.sl) (by simp only [List.length_append, List.length_cons, List.length_nil, List.length_map]; unfold most; omega) (by simp only [List.length_append, List.length_cons, List.length_nil, List.length_map]; unfold most; omega) rfl ( by simp) ?_
            refine VAny.frz (id := 5) (g.terms.map encS) rfl ?_
            refine VAny.movesI (is := [7]) (by kernel_rfl) (by simp) rfl (all1 ?_)
            · refine VMv.append (zs := g.names.map encS) rfl rfl rfl rfl (by rfl) (by decide) rfl (.arr rfl) rfl rfl (.sl) (by simp only [List.length_append, List.length_cons, List.length_nil, List.length_map]; unfold most; omega) (by simp only [List.length_append, List.length_cons, List.length_nil, List.length_map]; unfold most; omega) rfl ( by simp) ?_
              refine VAny.frz (id := 6) (g.names.map encS) rfl ?_
              refine VAny.pureI (i := 8) rfl rfl (by kernel_rfl) rfl (VPure.buildC rfl (by kernel_rfl) rfl (by rfl)) ?_
              refine VAny.movesI (is := [10]) (by kernel_rfl) (by simp) rfl (all1 ?_)
              · refine VMv.store rfl rfl rfl (by rfl) rfl rfl rfl rfl rfl rfl (Nat.le_of_ble_eq_true (by rfl)) rfl ?_
                refine VAny.done ?_
                (refine Less.mk (l := [0, 1, 4]) hcx ?ss ?hh rfl (by decide) rfl rfl; (case ss => repeat (first | exact SubS.nil | refine SubS.cons rfl rfl ?_ | refine SubS.cons (congrArg (fun z => some (V.val (Value.int IntKind.i64 z))) (by omega)) rfl ?_ | refine SubS.cons (congrArg (fun z => some (V.val (Value.bool z))) (by assumption)) rfl ?_)); (case hh => repeat (first | exact SubH.nil | refine SubH.cons rfl rfl rfl ?_)))
      · refine VMv.alloc rfl rfl rfl rfl (by kernel_rfl) rfl ?_
        refine VAny.movesI (is := [3, 4]) (by kernel_rfl) (by simp) rfl (allC ?_ (all1 ?_))
        · refine VMv.append (zs := g.terms.map encS) rfl rfl rfl rfl (by rfl) (by decide) rfl (.arr rfl) rfl rfl (.sl) (by simp only [List.length_append, List.length_cons, List.length_nil, List.length_map]; unfold most; omega) (by simp only [List.length_append, List.length_cons, List.length_nil, List.length_map]; unfold most; omega) rfl ( by simp) ?_
          refine VAny.frz (id := 4) (g.terms.map encS) rfl ?_
          refine VAny.movesI (is := [4]) (by kernel_rfl) (by simp) rfl (all1 ?_)
          · refine VMv.lit (rows := []) rfl rfl rfl rfl (by kernel_rfl) (by rfl) (by decide) (by decide) rfl (by rfl) (by rfl) (by rfl) (by rfl) ?_
            refine VAny.movesI (is := [7]) (by kernel_rfl) (by simp) rfl (all1 ?_)
            · refine VMv.append (zs := g.names.map encS) rfl rfl rfl rfl (by rfl) (by decide) rfl (.arr rfl) rfl rfl (.sl) (by simp only [List.length_append, List.length_cons, List.length_nil, List.length_map]; unfold most; omega) (by simp only [List.length_append, List.length_cons, List.length_nil, List.length_map]; unfold most; omega) rfl ( by simp) ?_
              refine VAny.frz (id := 6) (g.names.map encS) rfl ?_
              refine VAny.pureI (i := 8) rfl rfl (by kernel_rfl) rfl (VPure.buildC rfl (by kernel_rfl) rfl (by rfl)) ?_
              refine VAny.movesI (is := [10]) (by kernel_rfl) (by simp) rfl (all1 ?_)
              · refine VMv.store rfl rfl rfl (by rfl) rfl rfl rfl rfl rfl rfl (Nat.le_of_ble_eq_true (by rfl)) rfl ?_
                refine VAny.done ?_
                (refine Less.mk (l := [0, 1, 3]) hcx ?ss ?hh rfl (by decide) rfl rfl; (case ss => repeat (first | exact SubS.nil | refine SubS.cons rfl rfl ?_ | refine SubS.cons (congrArg (fun z => some (V.val (Value.int IntKind.i64 z))) (by omega)) rfl ?_ | refine SubS.cons (congrArg (fun z => some (V.val (Value.bool z))) (by assumption)) rfl ?_)); (case hh => repeat (first | exact SubH.nil | refine SubH.cons rfl rfl rfl ?_)))
        · refine VMv.lit (rows := []) rfl rfl rfl rfl (by kernel_rfl) (by rfl) (by decide) (by decide) rfl (by rfl) (by rfl) (by rfl) (by rfl) ?_
          refine VAny.movesI (is := [3]) (by kernel_rfl) (by simp) rfl (all1 ?_)
          · refine VMv.append (zs := g.terms.map encS) rfl rfl rfl rfl (by rfl) (by decide) rfl (.arr rfl) rfl rfl (.sl) (by simp only [List.length_append, List.length_cons, List.length_nil, List.length_map]; unfold most; omega) (by simp only [List.length_append, List.length_cons, List.length_nil, List.length_map]; unfold most; omega) rfl ( by simp) ?_
            refine VAny.frz (id := 5) (g.terms.map encS) rfl ?_
            refine VAny.movesI (is := [7]) (by kernel_rfl) (by simp) rfl (all1 ?_)
            · refine VMv.append (zs := g.names.map encS) rfl rfl rfl rfl (by rfl) (by decide) rfl (.arr rfl) rfl rfl (.sl) (by simp only [List.length_append, List.length_cons, List.length_nil, List.length_map]; unfold most; omega) (by simp only [List.length_append, List.length_cons, List.length_nil, List.length_map]; unfold most; omega) rfl ( by simp) ?_
              refine VAny.frz (id := 6) (g.names.map encS) rfl ?_
              refine VAny.pureI (i := 8) rfl rfl (by kernel_rfl) rfl (VPure.buildC rfl (by kernel_rfl) rfl (by rfl)) ?_
              refine VAny.movesI (is := [10]) (by kernel_rfl) (by simp) rfl (all1 ?_)
              · refine VMv.store rfl rfl rfl (by rfl) rfl rfl rfl rfl rfl rfl (Nat.le_of_ble_eq_true (by rfl)) rfl ?_
                refine VAny.done ?_
                (refine Less.mk (l := [0, 1, 3]) hcx ?ss ?hh rfl (by decide) rfl rfl; (case ss => repeat (first | exact SubS.nil | refine SubS.cons rfl rfl ?_ | refine SubS.cons (congrArg (fun z => some (V.val (Value.int IntKind.i64 z))) (by omega)) rfl ?_ | refine SubS.cons (congrArg (fun z => some (V.val (Value.bool z))) (by assumption)) rfl ?_)); (case hh => repeat (first | exact SubH.nil | refine SubH.cons rfl rfl rfl ?_)))
    · refine VMv.lit (rows := []) rfl rfl rfl rfl (by kernel_rfl) (by rfl) (by decide) (by decide) rfl (by rfl) (by rfl) (by rfl) (by rfl) ?_
      refine VAny.movesI (is := [0, 9]) (by kernel_rfl) (by simp) rfl (allC ?_ (all1 ?_))
      · refine VMv.lit (rows := []) rfl rfl rfl rfl (by kernel_rfl) (by rfl) (by decide) (by decide) rfl (by rfl) (by rfl) (by rfl) (by rfl) ?_
        refine VAny.movesI (is := [3, 9]) (by kernel_rfl) (by simp) rfl (allC ?_ (all1 ?_))
        · refine VMv.append (zs := g.terms.map encS) rfl rfl rfl rfl (by rfl) (by decide) rfl (.arr rfl) rfl rfl (.sl) (by simp only [List.length_append, List.length_cons, List.length_nil, List.length_map]; unfold most; omega) (by simp only [List.length_append, List.length_cons, List.length_nil, List.length_map]; unfold most; omega) rfl ( by simp) ?_
          refine VAny.frz (id := 4) (g.terms.map encS) rfl ?_
          refine VAny.movesI (is := [7, 9]) (by kernel_rfl) (by simp) rfl (allC ?_ (all1 ?_))
          · refine VMv.append (zs := g.names.map encS) rfl rfl rfl rfl (by rfl) (by decide) rfl (.arr rfl) rfl rfl (.sl) (by simp only [List.length_append, List.length_cons, List.length_nil, List.length_map]; unfold most; omega) (by simp only [List.length_append, List.length_cons, List.length_nil, List.length_map]; unfold most; omega) rfl ( by simp) ?_
            refine VAny.frz (id := 5) (g.names.map encS) rfl ?_
            refine VAny.pureI (i := 8) rfl rfl (by kernel_rfl) rfl (VPure.buildC rfl (by kernel_rfl) rfl (by rfl)) ?_
            refine VAny.movesI (is := [9]) (by kernel_rfl) (by simp) rfl (all1 ?_)
            · refine VMv.alloc rfl rfl rfl rfl (by kernel_rfl) rfl ?_
              refine VAny.movesI (is := [10]) (by kernel_rfl) (by simp) rfl (all1 ?_)
              · refine VMv.store rfl rfl rfl (by rfl) rfl rfl rfl rfl rfl rfl (Nat.le_of_ble_eq_true (by rfl)) rfl ?_
                refine VAny.done ?_
                (refine Less.mk (l := [0, 1, 6]) hcx ?ss ?hh rfl (by decide) rfl rfl; (case ss => repeat (first | exact SubS.nil | refine SubS.cons rfl rfl ?_ | refine SubS.cons (congrArg (fun z => some (V.val (Value.int IntKind.i64 z))) (by omega)) rfl ?_ | refine SubS.cons (congrArg (fun z => some (V.val (Value.bool z))) (by assumption)) rfl ?_)); (case hh => repeat (first | exact SubH.nil | refine SubH.cons rfl rfl rfl ?_)))
          · refine VMv.alloc rfl rfl rfl rfl (by kernel_rfl) rfl ?_
            refine VAny.movesI (is := [7]) (by kernel_rfl) (by simp) rfl (all1 ?_)
            · refine VMv.append (zs := g.names.map encS) rfl rfl rfl rfl (by rfl) (by decide) rfl (.arr rfl) rfl rfl (.sl) (by simp only [List.length_append, List.length_cons, List.length_nil, List.length_map]; unfold most; omega) (by simp only [List.length_append, List.length_cons, List.length_nil, List.length_map]; unfold most; omega) rfl ( by simp) ?_
              refine VAny.frz (id := 6) (g.names.map encS) rfl ?_
              refine VAny.pureI (i := 8) rfl rfl (by kernel_rfl) rfl (VPure.buildC rfl (by kernel_rfl) rfl (by rfl)) ?_
              refine VAny.movesI (is := [10]) (by kernel_rfl) (by simp) rfl (all1 ?_)
              · refine VMv.store rfl rfl rfl (by rfl) rfl rfl rfl rfl rfl rfl (Nat.le_of_ble_eq_true (by rfl)) rfl ?_
                refine VAny.done ?_
                (refine Less.mk (l := [0, 1, 5]) hcx ?ss ?hh rfl (by decide) rfl rfl; (case ss => repeat (first | exact SubS.nil | refine SubS.cons rfl rfl ?_ | refine SubS.cons (congrArg (fun z => some (V.val (Value.int IntKind.i64 z))) (by omega)) rfl ?_ | refine SubS.cons (congrArg (fun z => some (V.val (Value.bool z))) (by assumption)) rfl ?_)); (case hh => repeat (first | exact SubH.nil | refine SubH.cons rfl rfl rfl ?_)))
        · refine VMv.alloc rfl rfl rfl rfl (by kernel_rfl) rfl ?_
          refine VAny.movesI (is := [3]) (by kernel_rfl) (by simp) rfl (all1 ?_)
          · refine VMv.append (zs := g.terms.map encS) rfl rfl rfl rfl (by rfl) (by decide) rfl (.arr rfl) rfl rfl (.sl) (by simp only [List.length_append, List.length_cons, List.length_nil, List.length_map]; unfold most; omega) (by simp only [List.length_append, List.length_cons, List.length_nil, List.length_map]; unfold most; omega) rfl ( by simp) ?_
            refine VAny.frz (id := 5) (g.terms.map encS) rfl ?_
            refine VAny.movesI (is := [7]) (by kernel_rfl) (by simp) rfl (all1 ?_)
            · refine VMv.append (zs := g.names.map encS) rfl rfl rfl rfl (by rfl) (by decide) rfl (.arr rfl) rfl rfl (.sl) (by simp only [List.length_append, List.length_cons, List.length_nil, List.length_map]; unfold most; omega) (by simp only [List.length_append, List.length_cons, List.length_nil, List.length_map]; unfold most; omega) rfl ( by simp) ?_
              refine VAny.frz (id := 6) (g.names.map encS) rfl ?_
              refine VAny.pureI (i := 8) rfl rfl (by kernel_rfl) rfl (VPure.buildC rfl (by kernel_rfl) rfl (by rfl)) ?_
              refine VAny.movesI (is := [10]) (by kernel_rfl) (by simp) rfl (all1 ?_)
              · refine VMv.store rfl rfl rfl (by rfl) rfl rfl rfl rfl rfl rfl (Nat.le_of_ble_eq_true (by rfl)) rfl ?_
                refine VAny.done ?_
                (refine Less.mk (l := [0, 1, 4]) hcx ?ss ?hh rfl (by decide) rfl rfl; (case ss => repeat (first | exact SubS.nil | refine SubS.cons rfl rfl ?_ | refine SubS.cons (congrArg (fun z => some (V.val (Value.int IntKind.i64 z))) (by omega)) rfl ?_ | refine SubS.cons (congrArg (fun z => some (V.val (Value.bool z))) (by assumption)) rfl ?_)); (case hh => repeat (first | exact SubH.nil | refine SubH.cons rfl rfl rfl ?_)))
      · refine VMv.alloc rfl rfl rfl rfl (by kernel_rfl) rfl ?_
        refine VAny.movesI (is := [0]) (by kernel_rfl) (by simp) rfl (all1 ?_)
        · refine VMv.lit (rows := []) rfl rfl rfl rfl (by kernel_rfl) (by rfl) (by decide) (by decide) rfl (by rfl) (by rfl) (by rfl) (by rfl) ?_
          refine VAny.movesI (is := [3]) (by kernel_rfl) (by simp) rfl (all1 ?_)
          · refine VMv.append (zs := g.terms.map encS) rfl rfl rfl rfl (by rfl) (by decide) rfl (.arr rfl) rfl rfl (.sl) (by simp only [List.length_append, List.length_cons, List.length_nil, List.length_map]; unfold most; omega) (by simp only [List.length_append, List.length_cons, List.length_nil, List.length_map]; unfold most; omega) rfl ( by simp) ?_
            refine VAny.frz (id := 5) (g.terms.map encS) rfl ?_
            refine VAny.movesI (is := [7]) (by kernel_rfl) (by simp) rfl (all1 ?_)
            · refine VMv.append (zs := g.names.map encS) rfl rfl rfl rfl (by rfl) (by decide) rfl (.arr rfl) rfl rfl (.sl) (by simp only [List.length_append, List.length_cons, List.length_nil, List.length_map]; unfold most; omega) (by simp only [List.length_append, List.length_cons, List.length_nil, List.length_map]; unfold most; omega) rfl ( by simp) ?_
              refine VAny.frz (id := 6) (g.names.map encS) rfl ?_
              refine VAny.pureI (i := 8) rfl rfl (by kernel_rfl) rfl (VPure.buildC rfl (by kernel_rfl) rfl (by rfl)) ?_
              refine VAny.movesI (is := [10]) (by kernel_rfl) (by simp) rfl (all1 ?_)
              · refine VMv.store rfl rfl rfl (by rfl) rfl rfl rfl rfl rfl rfl (Nat.le_of_ble_eq_true (by rfl)) rfl ?_
                refine VAny.done ?_
                (refine Less.mk (l := [0, 1, 3]) hcx ?ss ?hh rfl (by decide) rfl rfl; (case ss => repeat (first | exact SubS.nil | refine SubS.cons rfl rfl ?_ | refine SubS.cons (congrArg (fun z => some (V.val (Value.int IntKind.i64 z))) (by omega)) rfl ?_ | refine SubS.cons (congrArg (fun z => some (V.val (Value.bool z))) (by assumption)) rfl ?_)); (case hh => repeat (first | exact SubH.nil | refine SubH.cons rfl rfl rfl ?_)))
    · refine VMv.alloc rfl rfl rfl rfl (by kernel_rfl) rfl ?_
      refine VAny.movesI (is := [0, 4]) (by kernel_rfl) (by simp) rfl (allC ?_ (all1 ?_))
      · refine VMv.lit (rows := []) rfl rfl rfl rfl (by kernel_rfl) (by rfl) (by decide) (by decide) rfl (by rfl) (by rfl) (by rfl) (by rfl) ?_
        refine VAny.movesI (is := [3, 4]) (by kernel_rfl) (by simp) rfl (allC ?_ (all1 ?_))
        · refine VMv.append (zs := g.terms.map encS) rfl rfl rfl rfl (by rfl) (by decide) rfl (.arr rfl) rfl rfl (.sl) (by simp only [List.length_append, List.length_cons, List.length_nil, List.length_map]; unfold most; omega) (by simp only [List.length_append, List.length_cons, List.length_nil, List.length_map]; unfold most; omega) rfl ( by simp) ?_
          refine VAny.frz (id := 4) (g.terms.map encS) rfl ?_
          refine VAny.movesI (is := [4]) (by kernel_rfl) (by simp) rfl (all1 ?_)
          · refine VMv.lit (rows := []) rfl rfl rfl rfl (by kernel_rfl) (by rfl) (by decide) (by decide) rfl (by rfl) (by rfl) (by rfl) (by rfl) ?_
            refine VAny.movesI (is := [7]) (by kernel_rfl) (by simp) rfl (all1 ?_)
            · refine VMv.append (zs := g.names.map encS) rfl rfl rfl rfl (by rfl) (by decide) rfl (.arr rfl) rfl rfl (.sl) (by simp only [List.length_append, List.length_cons, List.length_nil, List.length_map]; unfold most; omega) (by simp only [List.length_append, List.length_cons, List.length_nil, List.length_map]; unfold most; omega) rfl ( by simp) ?_
              refine VAny.frz (id := 6) (g.names.map encS) rfl ?_
              refine VAny.pureI (i := 8) rfl rfl (by kernel_rfl) rfl (VPure.buildC rfl (by kernel_rfl) rfl (by rfl)) ?_
              refine VAny.movesI (is := [10]) (by kernel_rfl) (by simp) rfl (all1 ?_)
              · refine VMv.store rfl rfl rfl (by rfl) rfl rfl rfl rfl rfl rfl (Nat.le_of_ble_eq_true (by rfl)) rfl ?_
                refine VAny.done ?_
                (refine Less.mk (l := [0, 1, 2]) hcx ?ss ?hh rfl (by decide) rfl rfl; (case ss => repeat (first | exact SubS.nil | refine SubS.cons rfl rfl ?_ | refine SubS.cons (congrArg (fun z => some (V.val (Value.int IntKind.i64 z))) (by omega)) rfl ?_ | refine SubS.cons (congrArg (fun z => some (V.val (Value.bool z))) (by assumption)) rfl ?_)); (case hh => repeat (first | exact SubH.nil | refine SubH.cons rfl rfl rfl ?_)))
        · refine VMv.lit (rows := []) rfl rfl rfl rfl (by kernel_rfl) (by rfl) (by decide) (by decide) rfl (by rfl) (by rfl) (by rfl) (by rfl) ?_
          refine VAny.movesI (is := [3]) (by kernel_rfl) (by simp) rfl (all1 ?_)
          · refine VMv.append (zs := g.terms.map encS) rfl rfl rfl rfl (by rfl) (by decide) rfl (.arr rfl) rfl rfl (.sl) (by simp only [List.length_append, List.length_cons, List.length_nil, List.length_map]; unfold most; omega) (by simp only [List.length_append, List.length_cons, List.length_nil, List.length_map]; unfold most; omega) rfl ( by simp) ?_
            refine VAny.frz (id := 5) (g.terms.map encS) rfl ?_
            refine VAny.movesI (is := [7]) (by kernel_rfl) (by simp) rfl (all1 ?_)
            · refine VMv.append (zs := g.names.map encS) rfl rfl rfl rfl (by rfl) (by decide) rfl (.arr rfl) rfl rfl (.sl) (by simp only [List.length_append, List.length_cons, List.length_nil, List.length_map]; unfold most; omega) (by simp only [List.length_append, List.length_cons, List.length_nil, List.length_map]; unfold most; omega) rfl ( by simp) ?_
              refine VAny.frz (id := 6) (g.names.map encS) rfl ?_
              refine VAny.pureI (i := 8) rfl rfl (by kernel_rfl) rfl (VPure.buildC rfl (by kernel_rfl) rfl (by rfl)) ?_
              refine VAny.movesI (is := [10]) (by kernel_rfl) (by simp) rfl (all1 ?_)
              · refine VMv.store rfl rfl rfl (by rfl) rfl rfl rfl rfl rfl rfl (Nat.le_of_ble_eq_true (by rfl)) rfl ?_
                refine VAny.done ?_
                (refine Less.mk (l := [0, 1, 2]) hcx ?ss ?hh rfl (by decide) rfl rfl; (case ss => repeat (first | exact SubS.nil | refine SubS.cons rfl rfl ?_ | refine SubS.cons (congrArg (fun z => some (V.val (Value.int IntKind.i64 z))) (by omega)) rfl ?_ | refine SubS.cons (congrArg (fun z => some (V.val (Value.bool z))) (by assumption)) rfl ?_)); (case hh => repeat (first | exact SubH.nil | refine SubH.cons rfl rfl rfl ?_)))
      · refine VMv.lit (rows := []) rfl rfl rfl rfl (by kernel_rfl) (by rfl) (by decide) (by decide) rfl (by rfl) (by rfl) (by rfl) (by rfl) ?_
        refine VAny.movesI (is := [0]) (by kernel_rfl) (by simp) rfl (all1 ?_)
        · refine VMv.lit (rows := []) rfl rfl rfl rfl (by kernel_rfl) (by rfl) (by decide) (by decide) rfl (by rfl) (by rfl) (by rfl) (by rfl) ?_
          refine VAny.movesI (is := [3]) (by kernel_rfl) (by simp) rfl (all1 ?_)
          · refine VMv.append (zs := g.terms.map encS) rfl rfl rfl rfl (by rfl) (by decide) rfl (.arr rfl) rfl rfl (.sl) (by simp only [List.length_append, List.length_cons, List.length_nil, List.length_map]; unfold most; omega) (by simp only [List.length_append, List.length_cons, List.length_nil, List.length_map]; unfold most; omega) rfl ( by simp) ?_
            refine VAny.frz (id := 5) (g.terms.map encS) rfl ?_
            refine VAny.movesI (is := [7]) (by kernel_rfl) (by simp) rfl (all1 ?_)
            · refine VMv.append (zs := g.names.map encS) rfl rfl rfl rfl (by rfl) (by decide) rfl (.arr rfl) rfl rfl (.sl) (by simp only [List.length_append, List.length_cons, List.length_nil, List.length_map]; unfold most; omega) (by simp only [List.length_append, List.length_cons, List.length_nil, List.length_map]; unfold most; omega) rfl ( by simp) ?_
              refine VAny.frz (id := 6) (g.names.map encS) rfl ?_
              refine VAny.pureI (i := 8) rfl rfl (by kernel_rfl) rfl (VPure.buildC rfl (by kernel_rfl) rfl (by rfl)) ?_
              refine VAny.movesI (is := [10]) (by kernel_rfl) (by simp) rfl (all1 ?_)
              · refine VMv.store rfl rfl rfl (by rfl) rfl rfl rfl rfl rfl rfl (Nat.le_of_ble_eq_true (by rfl)) rfl ?_
                refine VAny.done ?_
                (refine Less.mk (l := [0, 1, 2]) hcx ?ss ?hh rfl (by decide) rfl rfl; (case ss => repeat (first | exact SubS.nil | refine SubS.cons rfl rfl ?_ | refine SubS.cons (congrArg (fun z => some (V.val (Value.int IntKind.i64 z))) (by omega)) rfl ?_ | refine SubS.cons (congrArg (fun z => some (V.val (Value.bool z))) (by assumption)) rfl ?_)); (case hh => repeat (first | exact SubH.nil | refine SubH.cons rfl rfl rfl ?_)))
  (repeat (first | ((with_reducible refine VOps.same ?_); (first | (refine VOps.nil ?_; try dsimp only [VThen, VBlock]) | refine VOps.vp (by rfl) (by kernel_rfl) (by rfl) (VPure.assign rfl rfl) ?_)) | refine VCode.seq ?_ | refine VCode.region rfl ?_ | refine VCode.block ?_))
  refine VCode.nilCell (id := 2) 2 46 2 rfl rfl rfl rfl ?_
  refine VCode.loop (fun m st => ∃ k : Nat, k ≤ g.rules.length ∧ m = g.rules.length - k ∧ st = ⟨[(4, .val (.int .i64 (k : Int))), (1, .ptr 0 0), (2, .ptr 1 0), (3, .ptr 2 0)], [(0, gO g), (1, .cells 25 [.val (.slice none 0 0), .val (.slice none 0 0), .val (.slice none 0 0)]), (2, .cells 25 [.sl 1 (g.terms.map encS), .sl 1 (g.names.map encS), .ref 3]), (3, .arr 46 2 ((g.rules.take k).map encR))], 4⟩) g.rules.length ?_ ?_
  · (refine Less.mk (l := [0, 1, 2, 3]) hcx ?ss ?hh rfl (by decide) rfl ⟨0, by omega, by omega, rfl⟩; (case ss => repeat (first | exact SubS.nil | refine SubS.cons rfl rfl ?_ | refine SubS.cons (congrArg (fun z => some (V.val (Value.int IntKind.i64 z))) (by omega)) rfl ?_ | refine SubS.cons (congrArg (fun z => some (V.val (Value.bool z))) (by assumption)) rfl ?_)); (case hh => repeat (first | exact SubH.nil | refine SubH.cons rfl rfl rfl ?_)))
  rintro m st ⟨k, hk, rfl, rfl⟩
  cases hq : g.rules[k]? with
  | some r =>
    have hlt : k < g.rules.length := (List.getElem?_eq_some_iff.1 hq).1
    have hrr := hg.rights r (List.mem_of_getElem? hq)
    have htl : (g.rules.take k).length ≤ 4000 := by rw [List.length_take]; omega
    (repeat (first | ((with_reducible refine VOps.same ?_); (first | (refine VOps.nil ?_; try dsimp only [VThen, VBlock]) | refine VOps.vp (by rfl) (by kernel_rfl) (by rfl) (VPure.move rfl rfl) ?_ | refine VOps.vp (by rfl) (by kernel_rfl) (by rfl) (VPure.len_map TI.und' rfl rfl) ?_ | refine VOps.vp (by rfl) (by kernel_rfl) (by rfl) (VPure.field_ptr rfl rfl rfl) ?_ | refine VOps.vv (by rfl) (by kernel_rfl) (by rfl) (VLoad.box1 rfl rfl rfl rfl (by rfl) (by decide)) ?_ | refine VOps.vp (by rfl) (by kernel_rfl) (by rfl) (VPure.lss rfl rfl rfl) ?_)) | refine VCode.seq ?_ | refine VCode.region rfl ?_))
    refine VCode.cond_t rfl (decide_eq_true (by omega)) ?_
    (repeat (first | refine VCode.seq ?_ | refine VCode.block ?_ | refine VCode.skip ?_))
    refine VCode.inTo ⟨[(4, .val (.int .i64 (k : Int))), (1, .ptr 0 0), (2, .ptr 1 0), (3, .ptr 2 0)], [(0, gO g), (1, .cells 25 [.val (.slice none 0 0), .val (.slice none 0 0), .val (.slice none 0 0)]), (2, .cells 25 [.sl 1 (g.terms.map encS), .sl 1 (g.names.map encS), .ref 3]), (3, .arr 46 2 ((g.rules.take (k + 1)).map encR))], 4⟩ ?_ ?_
    · refine VCode.drawAny [2, 3, 4, 5, 6, 7] (by kernel_rfl) rfl ?_
      refine VAny.pureI (i := 0) rfl rfl (by kernel_rfl) rfl (VPure.field_ptr rfl rfl rfl) ?_
      refine VAny.pureI (i := 2) rfl rfl (by kernel_rfl) rfl (VPure.field_ptr rfl rfl rfl) ?_
      refine VAny.loadI (i := 3) rfl rfl (by kernel_rfl) rfl (VLoad.box1 rfl rfl rfl rfl (by rfl) (by decide)) ?_
      refine VAny.pureI (i := 4) rfl rfl (by kernel_rfl) rfl (VPure.move rfl rfl) ?_
      refine VAny.pureI (i := 5) rfl rfl (by kernel_rfl) rfl (VPure.idx_map rfl rfl rfl (by assumption)) ?_
      refine VAny.pureI (i := 6) rfl rfl (by kernel_rfl) rfl (VPure.field_el rfl rfl) ?_
      refine VAny.loadI (i := 7) rfl rfl (by kernel_rfl) rfl (VLoad.el1 rfl rfl rfl (by rfl)) ?_
      refine VAny.pureI (i := 9) rfl rfl (by kernel_rfl) rfl (VPure.field_ptr rfl rfl rfl) ?_
      refine VAny.loadI (i := 10) rfl rfl (by kernel_rfl) rfl (VLoad.box1 rfl rfl rfl rfl (by rfl) (by decide)) ?_
      refine VAny.pureI (i := 11) rfl rfl (by kernel_rfl) rfl (VPure.move rfl rfl) ?_
      refine VAny.pureI (i := 12) rfl rfl (by kernel_rfl) rfl (VPure.idx_map rfl rfl rfl (by assumption)) ?_
      refine VAny.pureI (i := 13) rfl rfl (by kernel_rfl) rfl (VPure.field_el rfl rfl) ?_
      refine VAny.loadI (i := 14) rfl rfl (by kernel_rfl) rfl (VLoad.el1 rfl rfl rfl (by rfl)) ?_
      refine VAny.movesI (is := [1, 8]) (by kernel_rfl) (by simp) rfl (allC ?_ (all1 ?_))
      · refine VMv.load rfl rfl rfl (VLoad.box1 rfl rfl rfl rfl (by rfl) (by decide)) ?_
        refine VAny.movesI (is := [8]) (by kernel_rfl) (by simp) rfl (all1 ?_)
        · refine VMv.lit (rows := []) rfl rfl rfl rfl (by kernel_rfl) (by rfl) (by decide) (by decide) rfl (by rfl) (by rfl) (by rfl) (by rfl) ?_
          refine VAny.movesI (is := [15]) (by kernel_rfl) (by simp) rfl (all1 ?_)
          · refine VMv.append (zs := r.right.map encI) rfl rfl rfl rfl (by rfl) (by decide) rfl (.arr rfl) rfl rfl (.sl) (by simp only [List.length_append, List.length_cons, List.length_nil, List.length_map]; unfold most; omega) (by simp only [List.length_append, List.length_cons, List.length_nil, List.length_map]; unfold most; omega) rfl ( by simp) ?_
            refine VAny.frz (id := 5) (r.right.map encI) rfl ?_
            refine VAny.pureI (i := 16) rfl rfl (by kernel_rfl) rfl (VPure.buildC rfl (by kernel_rfl) rfl (by rfl)) ?_
            refine VAny.movesI (is := [17]) (by kernel_rfl) (by simp) rfl (all1 ?_)
            · refine VMv.one rfl rfl rfl rfl (by rfl) (by decide) (by decide) rfl (by rfl) (by rfl) ?_
              refine VAny.movesI (is := [18]) (by kernel_rfl) (by simp) rfl (all1 ?_)
              · refine VMv.append (zs := (g.rules.take (k + 1)).map encR) rfl rfl rfl rfl (by rfl) (by decide) rfl (.arr rfl) rfl rfl (.arr rfl) (by simp only [List.length_append, List.length_cons, List.length_nil, List.length_map]; unfold most; omega) (by simp only [List.length_append, List.length_cons, List.length_nil, List.length_map]; unfold most; omega) rfl ( by rw [List.take_add_one, hq, List.map_append]; rfl) ?_
                refine VAny.pureI (i := 19) rfl rfl (by kernel_rfl) rfl (VPure.field_ptr rfl rfl rfl) ?_
                refine VAny.movesI (is := [20]) (by kernel_rfl) (by simp) rfl (all1 ?_)
                · refine VMv.store rfl rfl rfl (by rfl) rfl rfl rfl rfl rfl rfl (Nat.le_of_ble_eq_true (by rfl)) rfl ?_
                  refine VAny.done ?_
                  (refine Less.mk (l := [0, 1, 2, 7]) hcx ?ss ?hh rfl (by decide) rfl rfl; (case ss => repeat (first | exact SubS.nil | refine SubS.cons rfl rfl ?_ | refine SubS.cons (congrArg (fun z => some (V.val (Value.int IntKind.i64 z))) (by omega)) rfl ?_ | refine SubS.cons (congrArg (fun z => some (V.val (Value.bool z))) (by assumption)) rfl ?_)); (case hh => repeat (first | exact SubH.nil | refine SubH.cons rfl rfl rfl ?_)))
      · refine VMv.lit (rows := []) rfl rfl rfl rfl (by kernel_rfl) (by rfl) (by decide) (by decide) rfl (by rfl) (by rfl) (by rfl) (by rfl) ?_
        refine VAny.movesI (is := [1, 15]) (by kernel_rfl) (by simp) rfl (allC ?_ (all1 ?_))
        · refine VMv.load rfl rfl rfl (VLoad.box1 rfl rfl rfl rfl (by rfl) (by decide)) ?_
          refine VAny.movesI (is := [15]) (by kernel_rfl) (by simp) rfl (all1 ?_)
          · refine VMv.append (zs := r.right.map encI) rfl rfl rfl rfl (by rfl) (by decide) rfl (.arr rfl) rfl rfl (.sl) (by simp only [List.length_append, List.length_cons, List.length_nil, List.length_map]; unfold most; omega) (by simp only [List.length_append, List.length_cons, List.length_nil, List.length_map]; unfold most; omega) rfl ( by simp) ?_
            refine VAny.frz (id := 5) (r.right.map encI) rfl ?_
            refine VAny.pureI (i := 16) rfl rfl (by kernel_rfl) rfl (VPure.buildC rfl (by kernel_rfl) rfl (by rfl)) ?_
            refine VAny.movesI (is := [17]) (by kernel_rfl) (by simp) rfl (all1 ?_)
            · refine VMv.one rfl rfl rfl rfl (by rfl) (by decide) (by decide) rfl (by rfl) (by rfl) ?_
              refine VAny.movesI (is := [18]) (by kernel_rfl) (by simp) rfl (all1 ?_)
              · refine VMv.append (zs := (g.rules.take (k + 1)).map encR) rfl rfl rfl rfl (by rfl) (by decide) rfl (.arr rfl) rfl rfl (.arr rfl) (by simp only [List.length_append, List.length_cons, List.length_nil, List.length_map]; unfold most; omega) (by simp only [List.length_append, List.length_cons, List.length_nil, List.length_map]; unfold most; omega) rfl ( by rw [List.take_add_one, hq, List.map_append]; rfl) ?_
                refine VAny.pureI (i := 19) rfl rfl (by kernel_rfl) rfl (VPure.field_ptr rfl rfl rfl) ?_
                refine VAny.movesI (is := [20]) (by kernel_rfl) (by simp) rfl (all1 ?_)
                · refine VMv.store rfl rfl rfl (by rfl) rfl rfl rfl rfl rfl rfl (Nat.le_of_ble_eq_true (by rfl)) rfl ?_
                  refine VAny.done ?_
                  (refine Less.mk (l := [0, 1, 2, 7]) hcx ?ss ?hh rfl (by decide) rfl rfl; (case ss => repeat (first | exact SubS.nil | refine SubS.cons rfl rfl ?_ | refine SubS.cons (congrArg (fun z => some (V.val (Value.int IntKind.i64 z))) (by omega)) rfl ?_ | refine SubS.cons (congrArg (fun z => some (V.val (Value.bool z))) (by assumption)) rfl ?_)); (case hh => repeat (first | exact SubH.nil | refine SubH.cons rfl rfl rfl ?_)))
        · refine VMv.append (zs := r.right.map encI) rfl rfl rfl rfl (by rfl) (by decide) rfl (.arr rfl) rfl rfl (.sl) (by simp only [List.length_append, List.length_cons, List.length_nil, List.length_map]; unfold most; omega) (by simp only [List.length_append, List.length_cons, List.length_nil, List.length_map]; unfold most; omega) rfl ( by simp) ?_
          refine VAny.frz (id := 5) (r.right.map encI) rfl ?_
          refine VAny.pureI (i := 16) rfl rfl (by kernel_rfl) rfl (VPure.buildC rfl (by kernel_rfl) rfl (by rfl)) ?_
          refine VAny.movesI (is := [1, 17]) (by kernel_rfl) (by simp) rfl (allC ?_ (all1 ?_))
          · refine VMv.load rfl rfl rfl (VLoad.box1 rfl rfl rfl rfl (by rfl) (by decide)) ?_
            refine VAny.movesI (is := [17]) (by kernel_rfl) (by simp) rfl (all1 ?_)
            · refine VMv.one rfl rfl rfl rfl (by rfl) (by decide) (by decide) rfl (by rfl) (by rfl) ?_
              refine VAny.movesI (is := [18]) (by kernel_rfl) (by simp) rfl (all1 ?_)
              · refine VMv.append (zs := (g.rules.take (k + 1)).map encR) rfl rfl rfl rfl (by rfl) (by decide) rfl (.arr rfl) rfl rfl (.arr rfl) (by simp only [List.length_append, List.length_cons, List.length_nil, List.length_map]; unfold most; omega) (by simp only [List.length_append, List.length_cons, List.length_nil, List.length_map]; unfold most; omega) rfl ( by rw [List.take_add_one, hq, List.map_append]; rfl) ?_
                refine VAny.pureI (i := 19) rfl rfl (by kernel_rfl) rfl (VPure.field_ptr rfl rfl rfl) ?_
                refine VAny.movesI (is := [20]) (by kernel_rfl) (by simp) rfl (all1 ?_)
                · refine VMv.store rfl rfl rfl (by rfl) rfl rfl rfl rfl rfl rfl (Nat.le_of_ble_eq_true (by rfl)) rfl ?_
                  refine VAny.done ?_
                  (refine Less.mk (l := [0, 1, 2, 7]) hcx ?ss ?hh rfl (by decide) rfl rfl; (case ss => repeat (first | exact SubS.nil | refine SubS.cons rfl rfl ?_ | refine SubS.cons (congrArg (fun z => some (V.val (Value.int IntKind.i64 z))) (by omega)) rfl ?_ | refine SubS.cons (congrArg (fun z => some (V.val (Value.bool z))) (by assumption)) rfl ?_)); (case hh => repeat (first | exact SubH.nil | refine SubH.cons rfl rfl rfl ?_)))
          · refine VMv.one rfl rfl rfl rfl (by rfl) (by decide) (by decide) rfl (by rfl) (by rfl) ?_
            refine VAny.movesI (is := [1]) (by kernel_rfl) (by simp) rfl (all1 ?_)
            · refine VMv.load rfl rfl rfl (VLoad.box1 rfl rfl rfl rfl (by rfl) (by decide)) ?_
              refine VAny.movesI (is := [18]) (by kernel_rfl) (by simp) rfl (all1 ?_)
              · refine VMv.append (zs := (g.rules.take (k + 1)).map encR) rfl rfl rfl rfl (by rfl) (by decide) rfl (.arr rfl) rfl rfl (.arr rfl) (by simp only [List.length_append, List.length_cons, List.length_nil, List.length_map]; unfold most; omega) (by simp only [List.length_append, List.length_cons, List.length_nil, List.length_map]; unfold most; omega) rfl ( by rw [List.take_add_one, hq, List.map_append]; rfl) ?_
                refine VAny.pureI (i := 19) rfl rfl (by kernel_rfl) rfl (VPure.field_ptr rfl rfl rfl) ?_
                refine VAny.movesI (is := [20]) (by kernel_rfl) (by simp) rfl (all1 ?_)
                · refine VMv.store rfl rfl rfl (by rfl) rfl rfl rfl rfl rfl rfl (Nat.le_of_ble_eq_true (by rfl)) rfl ?_
                  refine VAny.done ?_
                  (refine Less.mk (l := [0, 1, 2, 7]) hcx ?ss ?hh rfl (by decide) rfl rfl; (case ss => repeat (first | exact SubS.nil | refine SubS.cons rfl rfl ?_ | refine SubS.cons (congrArg (fun z => some (V.val (Value.int IntKind.i64 z))) (by omega)) rfl ?_ | refine SubS.cons (congrArg (fun z => some (V.val (Value.bool z))) (by assumption)) rfl ?_)); (case hh => repeat (first | exact SubH.nil | refine SubH.cons rfl rfl rfl ?_)))
    (repeat (first | ((with_reducible refine VOps.same ?_); (first | (refine VOps.nil ?_; try dsimp only [VThen, VBlock]) | refine VOps.vp (by rfl) (by kernel_rfl) (by rfl) (VPure.move rfl rfl) ?_ | refine VOps.vp (by rfl) (by kernel_rfl) (by rfl) (VPure.assign rfl rfl) ?_ | refine VOps.vp (by rfl) (by kernel_rfl) (by rfl) (VPure.addK rfl rfl rfl (by omega)) ?_)) | refine VCode.region rfl ?_))
    (refine Less.mk (l := [0, 1, 2, 3]) hcx ?ss ?hh rfl (by decide) rfl ⟨_, ?_, k + 1, by omega, rfl, rfl⟩; (case ss => repeat (first | exact SubS.nil | refine SubS.cons rfl rfl ?_ | refine SubS.cons (congrArg (fun z => some (V.val (Value.int IntKind.i64 z))) (by omega)) rfl ?_ | refine SubS.cons (congrArg (fun z => some (V.val (Value.bool z))) (by assumption)) rfl ?_)); (case hh => repeat (first | exact SubH.nil | refine SubH.cons rfl rfl rfl ?_)))
    omega
  | none =>
    have hge : g.rules.length ≤ k := List.getElem?_eq_none_iff.1 hq
    rw [List.take_of_length_le hge]
    (repeat (first | ((with_reducible refine VOps.same ?_); (first | (refine VOps.nil ?_; try dsimp only [VThen, VBlock]) | refine VOps.vp (by rfl) (by kernel_rfl) (by rfl) (VPure.move rfl rfl) ?_ | refine VOps.vp (by rfl) (by kernel_rfl) (by rfl) (VPure.len_map TI.und' rfl rfl) ?_ | refine VOps.vp (by rfl) (by kernel_rfl) (by rfl) (VPure.field_ptr rfl rfl rfl) ?_ | refine VOps.vv (by rfl) (by kernel_rfl) (by rfl) (VLoad.box1 rfl rfl rfl rfl (by rfl) (by decide)) ?_ | refine VOps.vp (by rfl) (by kernel_rfl) (by rfl) (VPure.lss rfl rfl rfl) ?_)) | refine VCode.seq ?_ | refine VCode.region rfl ?_))
    refine VCode.cond_f rfl (decide_eq_false (by omega)) ?_
    (repeat (first | ((with_reducible refine VOps.same ?_); (first | (refine VOps.nil ?_; try dsimp only [VThen, VBlock]) | refine VOps.vv (by rfl) (by kernel_rfl) (by rfl) (VLoad.boxA rfl rfl rfl (by rfl) (Nat.le_of_ble_eq_true (by rfl)) (by decide)) ?_ | refine VOps.store rfl rfl (by kernel_rfl) rfl rfl rfl rfl rfl rfl (Nat.le_of_ble_eq_true (by rfl)) rfl ?_)) | refine VCode.seq ?_ | refine VCode.region rfl ?_ | refine VCode.exit ?_))
    refine VCode.ret ?_
    (show Less cx _ _; refine Less.mkx (l := [3, 1]) (st' := ⟨[(2, .ptr 1 0)], [(0, .arr 46 2 (g.rules.map encR)), (1, .cells 25 [.sl 1 (g.terms.map encS), .sl 1 (g.names.map encS), .ref 0])], 2⟩) 0 hcx (Nat.le_of_ble_eq_true rfl) (by decide) ?ss ?hh rfl (by decide) rfl ⟨_, (.cellA rfl rfl rfl (Nat.le_of_ble_eq_true (by rfl)) .nil), rfl, rfl, rfl⟩; (case ss => repeat (first | exact SubS.nil | refine SubS.cons rfl rfl ?_ | refine SubS.cons (congrArg (fun z => some (V.val (Value.int IntKind.i64 z))) (by omega)) rfl ?_ | refine SubS.cons (congrArg (fun z => some (V.val (Value.bool z))) (by assumption)) rfl ?_)); (case hh => repeat (first | exact SubH.nil | refine SubH.cons rfl rfl rfl ?_)))
end Go.Proofs.Ytfjfbapiheehaaa.V
end
section
set_option linter.unusedVariables false
set_option linter.unusedSimpArgs false
namespace Go.Proofs.Ytfjfbapiheehaaa.V
open Go Go.RowKit Go.Proofs.Ytfjfbapiheehaaa.DG
section
variable {P : Program} {n : Nat} {cx : Cx} {ops : Array Oper} {K : St → Prop} {E : List PanicEntry → St → Prop} {i : Nat} {o : Oper} {dl pl pend q : List (Nat × Oper)} {m : List Nat} {s : List (Nat × V)} {h : Heap} {x dd : Nat}
theorem VMv.store_arrm {α : Type} {f : α → List D} {xs ys : List α} {u u' : α} {t e' : TypeId} {p y : Operand} {id pos k j sz : Nat} {ds : List D} {v : V} {d : TypeDesc} {sz' b : Nat} {z : Value} (he : cutAt i pend = some (o, dl, pl, q)) (ho : o.op = .store t p y) (hw : wantedV ops o s = some true) (hm : ([id].all fun k => m.contains k) = true) (hd : o.dst = none) (hp : ev s p = some (.ael id pos)) (hx : ev s y = some v) (hh : lk h id = some (.arr e' sz (xs.map f))) (hpos : pos = k * sz + j) (hrow : xs[k]? = some u) [ht : TI P t d sz' b z]
    (hds : toDs (flat v) = some ds) (hl : (flat v).length = sz') (hin : j + sz' ≤ sz) (hu' : splice (f u) j ds = f u') (hys : xs.set k u' = ys)
    (h2 : VAny P n cx false m ops K E [] q ⟨s, (id, .arr e' sz (ys.map f)) :: h, x⟩) : VMv P n cx m ops K E pend i ⟨s, h, x⟩ :=
  VMv.mk he hm hw (VOp.store_arr ho hp hx hh hpos (by rw [List.getElem?_map, hrow]; rfl) hds hl hin) (by rintro v' h' x' ⟨rfl, rfl, rfl⟩; rw [hd, hu', ← List.map_set, hys]; exact h2)
end
def part {α : Type} (f : α → α) (l : List α) (k : Nat) : List α := (l.take k).map f ++ l.drop k
theorem part_get {α : Type} {f : α → α} {l : List α} {k : Nat} {x : α} (h : l[k]? = some x) : (part f l k)[k]? = some x := by
  have hk := (List.getElem?_eq_some_iff.1 h).1
  unfold part
  rw [List.getElem?_append_right (by rw [List.length_map, List.length_take]; omega), List.length_map, List.length_take, Nat.min_eq_left (by omega), Nat.sub_self, List.getElem?_drop]
  exact h
theorem part_set {α : Type} {f : α → α} {l : List α} {k : Nat} {x : α} (h : l[k]? = some x) : (part f l k).set k (f x) = part f l (k + 1) := by
  have hk := (List.getElem?_eq_some_iff.1 h).1
  have hx := (List.getElem?_eq_some_iff.1 h).2
  unfold part
  rw [List.set_append_right _ _ (by rw [List.length_map, List.length_take]; omega), List.length_map, List.length_take, Nat.min_eq_left (by omega), Nat.sub_self, List.drop_eq_getElem_cons hk, hx, List.set_cons_zero, List.take_add_one, h]
  simp
theorem part_all {α : Type} {f : α → α} {l : List α} {k : Nat} (h : l.length ≤ k) : part f l k = l.map f := by
  unfold part
  rw [List.take_of_length_le h, List.drop_eq_nil_of_le h, List.append_nil]
def min1 (n : Nat) : Nat := if n < 1 then n else 1
theorem min1_le (n : Nat) : min1 n ≤ n ∧ min1 n ≤ 1 := by unfold min1; split <;> omega
theorem min1_is (n : Nat) : (if (n : Int) < 1 then (n : Int) else 1) = ((min1 n : Nat) : Int) := by unfold min1; split <;> split <;> omega
def oneR (r : Ru) : Ru := ⟨r.left, r.right.take (min1 r.right.length)⟩
def wideR (r : Ru) : Ru := ⟨r.left, (0 :: r.right) ++ [0]⟩
abbrev oneG (g : Gr) : Gr := ⟨g.terms, g.names, g.rules.map oneR⟩
abbrev wideG (g : Gr) : Gr := ⟨g.terms, g.names, g.rules.map wideR⟩
theorem one_sized {g : Gr} (h : Sized g) : Sized (oneG g) := by
  refine ⟨h.terms, h.names, by rw [List.length_map]; exact h.rules, fun r hr => ?_, h.tsize, h.nsize⟩
  obtain ⟨q, hq, rfl⟩ := List.mem_map.1 hr
  have := h.rights q hq
  have := min1_le q.right.length
  unfold oneR
  rw [List.length_take]; omega
theorem good_right {g : Gr} (h : GoodG g) {r : Ru} (hr : r ∈ g.rules) : r.right.length ≤ 8 := by
  obtain ⟨i, hi⟩ := List.mem_iff_getElem?.1 hr
  exact (h.rules.2.2 i r hi).2.2.1
theorem wide_sized {g : Gr} (h : Sized g) (hG : GoodG g) : Sized (wideG g) := by
  refine ⟨h.terms, h.names, by rw [List.length_map]; exact h.rules, fun r hr => ?_, h.tsize, h.nsize⟩
  obtain ⟨q, hq, rfl⟩ := List.mem_map.1 hr
  have := good_right hG hq
  unfold wideR
  rw [List.length_append, List.length_cons, List.length_singleton]; omega
theorem one_none {g : Gr} (hG : GoodG (oneG g)) (a : Nat) : eC (oneG g) [] soL a = false ∧ eC (oneG g) [] soR a = false := by
  have key : ∀ z ∈ spots (oneG g), z.2 = 0 ∧ (rightLen (oneG g) z : Int) ≤ 1 := by
    intro z hz
    obtain ⟨_, i, j, r, s, a, b, k⟩ := spot_at hz
    have hr := k.hr
    obtain ⟨q, hq, rfl⟩ := List.mem_map.1 (List.mem_of_getElem? hr)
    have hl : (oneR q).right.length ≤ 1 := by have := min1_le q.right.length; unfold oneR; rw [List.length_take]; omega
    have hj := (List.getElem?_eq_some_iff.1 k.hs).1
    obtain rfl := k.hx
    have e : rightLen (oneG g) ((i : Int), (j : Int)) = (oneR q).right.length := by unfold rightLen; rw [Int.toNat_natCast, hr]
    rw [e]
    exact ⟨show (j : Int) = 0 by omega, by omega⟩
  have mem : ∀ z ∈ innerS (oneG g) [], z ∈ spots (oneG g) := fun z hz => (mem_restS.1 (List.mem_filter.1 hz).1).1
  constructor
  · rw [Bool.eq_false_iff]
    intro h
    obtain ⟨z, hz, _, h0⟩ := eC_left hG (w := []) (m := []) h
    have := key z (mem z hz)
    omega
  · rw [Bool.eq_false_iff]
    intro h
    obtain ⟨z, hz, _, h0⟩ := eC_right hG (w := []) (m := []) h
    have := key z (mem z hz)
    omega
theorem wide_spot {g : Gr} (ht : 0 < g.terms.length) {z : Spot} (hz : z ∈ spots (wideG g)) : 0 < z.2 ∧ z.2 < (rightLen (wideG g) z : Int) - 1 := by
  obtain ⟨_, i, j, r, s, a, b, k⟩ := spot_at hz
  have hr := k.hr
  obtain ⟨q, hq, rfl⟩ := List.mem_map.1 (List.mem_of_getElem? hr)
  have hs := k.hs
  have hj := (List.getElem?_eq_some_iff.1 hs).1
  have hy : s = (g.terms.length : Int) + (b : Int) := k.hy
  have e : rightLen (wideG g) ((i : Int), (j : Int)) = (wideR q).right.length := by unfold rightLen; rw [Int.toNat_natCast, hr]
  have hl : (wideR q).right.length = q.right.length + 2 := by unfold wideR; simp
  obtain rfl := k.hx
  rw [e]
  refine ⟨?_, ?_⟩
  · show (0 : Int) < (j : Int)
    rcases Nat.eq_zero_or_pos j with h | h
    · subst h
      have : s = 0 := by simpa [wideR] using hs.symm
      omega
    · omega
  · show (j : Int) < _
    by_cases h : j = q.right.length + 1
    · subst h
      have : s = 0 := by
        unfold wideR at hs
        rw [List.getElem?_append_right (by simp)] at hs
        simpa using hs.symm
      omega
    · omega
theorem hang_tr {g : Gr} (hsp : ∀ z ∈ spots g, 0 < z.2 ∧ z.2 < (rightLen g z : Int) - 1) {a b : Nat} (h : Hang g [] a b) : Tr (Adv (stepsOf g [])) (a, false, false) (b, true, true) := by
  have st : ∀ {a b : Nat} (l r : Bool), Step g [] a b → Adv (stepsOf g []) (a, l, r) (b, true, true) := by
    intro a b l r h
    obtain ⟨z, hz, e⟩ := List.mem_map.1 (show (a, b) ∈ (restS g []).map (edge g) from h)
    have := hsp z (mem_restS.1 hz).1
    refine ⟨stepOf g z, List.mem_map.2 ⟨z, hz, rfl⟩, ?_, ?_⟩
    · show (edge g z).1 = a
      rw [e]
    · unfold adv stepOf
      rw [e, decide_eq_true this.1, decide_eq_true this.2]
      simp
  induction h with
  | one e => exact .one (st _ _ e)
  | more _ e ih => exact .more ih (st _ _ e)
theorem wide_is {g : Gr} (ht : 0 < g.terms.length) (hG : GoodG (wideG g)) {a : Nat} (ha : a < g.names.length) : eC (wideG g) [] soB a = cellB (onOf (wideG g) []) a a := by
  rw [Bool.eq_iff_iff]
  constructor
  · exact fun h => eC_hang hG ha h
  · intro h
    exact (eC_iff ..).2 ⟨true, true, hang_tr (fun z hz => wide_spot ht hz) ((cell_on hG [] ha a).1 h), rfl⟩
set_option maxRecDepth 20000 in
set_option maxHeartbeats 16000000 in
theorem eones_v (g : Gr) : VCalls Try.prog 9 [gV g] [] 0 (Gives (.val (.bool true))) := by
  refine VCalls.enterD (n := 161) Try.func9 rfl rfl (by simp) rfl (fun cx hcx => ?_)
  (repeat (first | ((with_reducible refine VOps.same ?_); (first | (refine VOps.nil ?_; try dsimp only [VThen, VBlock]) | refine VOps.vp (by rfl) (by kernel_rfl) (by rfl) (VPure.assign rfl rfl) ?_ | refine VOps.vv (by rfl) (by kernel_rfl) (by rfl) (VLoad.boxA rfl rfl rfl (by rfl) (Nat.le_of_ble_eq_true (by rfl)) (by decide)) ?_ | refine VOps.box rfl rfl (by kernel_rfl) rfl rfl rfl rfl ?_)) | refine VCode.seq ?_ | refine VCode.region rfl ?_))
  refine VOps.pure rfl Try.func11 rfl (by kernel_rfl) rfl rfl rfl rfl rfl rfl rfl (large_v g) ?_
  (repeat (first | ((with_reducible refine VOps.same ?_); (first | refine VOps.vp (by rfl) (by kernel_rfl) (by rfl) (VPure.move rfl rfl) ?_))))
  refine VOps.bool (d := 15) rfl (fun h1 => ?_) (fun h1 => ?_)
  · (repeat (first | ((with_reducible refine VOps.same ?_); (first | (refine VOps.nil ?_; try dsimp only [VThen, VBlock]) | refine VOps.vp (by rfl) (by kernel_rfl) (by rfl) (VPure.move rfl rfl) ?_ | refine VOps.vp (by rfl) (by kernel_rfl) (by rfl) (VPure.pick_t rfl rfl rfl) ?_ | refine VOps.passv rfl (by kernel_rfl) rfl ?_))))
    refine VCode.cond_t rfl rfl ?_
    (repeat (first | refine VCode.seq ?_ | refine VCode.region rfl ?_))
    refine VOps.pure rfl Try.func29 rfl (by kernel_rfl) rfl rfl rfl rfl rfl rfl rfl (ewakes_v) ?_
    (repeat (first | ((with_reducible refine VOps.same ?_); (first | (refine VOps.nil ?_; try dsimp only [VThen, VBlock]) | refine VOps.vp (by rfl) (by kernel_rfl) (by rfl) (VPure.assign rfl rfl) ?_))))
    refine VCode.retD rfl rfl (.tmp rfl .nil) ?_
    rfl
  obtain ⟨hg, _⟩ := small_sized h1
  have hn := hg.names
  have ht := hg.terms
  have hr := hg.rules
  (repeat (first | ((with_reducible refine VOps.same ?_); (first | refine VOps.vv (by rfl) (by kernel_rfl) (by rfl) (VLoad.boxA rfl rfl rfl (by rfl) (Nat.le_of_ble_eq_true (by rfl)) (by decide)) ?_))))
  refine VOps.pure rfl Try.func26 rfl (by kernel_rfl) rfl rfl rfl rfl rfl rfl rfl (rgood_v g hg) ?_
  (repeat (first | ((with_reducible refine VOps.same ?_); (first | refine VOps.vp (by rfl) (by kernel_rfl) (by rfl) (VPure.move rfl rfl) ?_ | refine VOps.vp (by rfl) (by kernel_rfl) (by rfl) (VPure.not rfl rfl) ?_ | refine VOps.vp (by rfl) (by kernel_rfl) (by rfl) (VPure.pick_f rfl rfl rfl) ?_))))
  refine VOps.bool (d := 20) rfl (fun h2 => ?_) (fun h2 => ?_)
  · (repeat (first | ((with_reducible refine VOps.same ?_); (first | (refine VOps.nil ?_; try dsimp only [VThen, VBlock]) | refine VOps.vp (by rfl) (by kernel_rfl) (by rfl) (VPure.pick_t rfl rfl rfl) ?_ | refine VOps.passv rfl (by kernel_rfl) rfl ?_))))
    refine VCode.cond_t rfl rfl ?_
    (repeat (first | refine VCode.seq ?_ | refine VCode.region rfl ?_))
    refine VOps.pure rfl Try.func29 rfl (by kernel_rfl) rfl rfl rfl rfl rfl rfl rfl (ewakes_v) ?_
    (repeat (first | ((with_reducible refine VOps.same ?_); (first | (refine VOps.nil ?_; try dsimp only [VThen, VBlock]) | refine VOps.vp (by rfl) (by kernel_rfl) (by rfl) (VPure.assign rfl rfl) ?_))))
    refine VCode.retD rfl rfl (.tmp rfl .nil) ?_
    rfl
  have hG : GoodG g := by simpa using h2
  (repeat (first | ((with_reducible refine VOps.same ?_); (first | (refine VOps.nil ?_; try dsimp only [VThen, VBlock]) | refine VOps.vp (by rfl) (by kernel_rfl) (by rfl) (VPure.len_map TI.und' rfl rfl) ?_ | refine VOps.vp (by rfl) (by kernel_rfl) (by rfl) (VPure.field_ptr rfl rfl rfl) ?_ | refine VOps.vv (by rfl) (by kernel_rfl) (by rfl) (VLoad.box1 rfl rfl rfl rfl (by rfl) (by decide)) ?_ | refine VOps.vp (by rfl) (by kernel_rfl) (by rfl) (VPure.eqi rfl rfl rfl) ?_ | refine VOps.vp (by rfl) (by kernel_rfl) (by rfl) (VPure.pick_f rfl rfl rfl) ?_))))
  refine VCode.cond rfl (fun h3 => ?_) (fun h3 => ?_)
  · skip
    (repeat (first | refine VCode.seq ?_ | refine VCode.region rfl ?_))
    refine VOps.pure rfl Try.func29 rfl (by kernel_rfl) rfl rfl rfl rfl rfl rfl rfl (ewakes_v) ?_
    (repeat (first | ((with_reducible refine VOps.same ?_); (first | (refine VOps.nil ?_; try dsimp only [VThen, VBlock]) | refine VOps.vp (by rfl) (by kernel_rfl) (by rfl) (VPure.assign rfl rfl) ?_))))
    refine VCode.retD rfl rfl (.tmp rfl .nil) ?_
    rfl
  have htp : 0 < g.terms.length := by have := of_decide_eq_false h3; omega
  have hs1 := one_sized hg
  have hs2 := wide_sized hg hG
  (repeat (first | ((with_reducible refine VOps.same ?_); (first | (refine VOps.nil ?_; try dsimp only [VThen, VBlock]) | refine VOps.vp (by rfl) (by kernel_rfl) (by rfl) (VPure.assign rfl rfl) ?_ | refine VOps.vp (by rfl) (by kernel_rfl) (by rfl) (VPure.len_map TI.und' rfl rfl) ?_ | refine VOps.vp (by rfl) (by kernel_rfl) (by rfl) (VPure.field_ptr rfl rfl rfl) ?_ | refine VOps.vv (by rfl) (by kernel_rfl) (by rfl) (VLoad.box1 rfl rfl rfl rfl (by rfl) (by decide)) ?_)) | refine VCode.seq ?_ | refine VCode.region rfl ?_ | refine VCode.skip ?_))
  refine VCode.thenTo ⟨[(1, .ptr 0 0), (3, .val (.int .i64 (g.names.length : Int))), (4, .ptr 3 0), (5, .ptr 4 0)], [(0, gO g), (1, .arr 46 2 (g.rules.map encR)), (2, .arr 46 2 (g.rules.map encR)), (3, .cells 25 [.sl 1 (g.terms.map encS), .sl 1 (g.names.map encS), .ref 1]), (4, .cells 25 [.sl 1 (g.terms.map encS), .sl 1 (g.names.map encS), .ref 2])], 5⟩ ?_ ?_
  · refine VCode.drawAny [1, 2, 3, 4, 5, 6] (by kernel_rfl) rfl ?_
    refine VAny.loadI (i := 0) rfl rfl (by kernel_rfl) rfl (VLoad.boxA rfl rfl rfl (by rfl) (Nat.le_of_ble_eq_true (by rfl)) (by decide)) ?_
    refine VAny.loadI (i := 2) rfl rfl (by kernel_rfl) rfl (VLoad.boxA rfl rfl rfl (by rfl) (Nat.le_of_ble_eq_true (by rfl)) (by decide)) ?_
    refine VAny.movesI (is := [1, 4, 5]) (by kernel_rfl) (by simp) rfl (allC ?_ (allC ?_ (all1 ?_)))
    · (refine VMv.callL (ch := []) [] rfl rfl Try.func13 rfl rfl rfl rfl rfl rfl ?hh (by decide) rfl rfl rfl (own_o g hg) rfl (by rfl) rfl ?_; (case hh => repeat (first | exact SubH.nil | refine SubH.cons rfl rfl rfl ?_)))
      refine VAny.movesI (is := [3, 4, 5]) (by kernel_rfl) (by simp) rfl (allC ?_ (allC ?_ (all1 ?_)))
      · (refine VMv.callL (ch := []) [] rfl rfl Try.func13 rfl rfl rfl rfl rfl rfl ?hh (by decide) rfl rfl rfl (own_o g hg) rfl (by rfl) rfl ?_; (case hh => repeat (first | exact SubH.nil | refine SubH.cons rfl rfl rfl ?_)))
        refine VAny.movesI (is := [4, 5]) (by kernel_rfl) (by simp) rfl (allC ?_ (all1 ?_))
        · refine VMv.alloc rfl rfl rfl rfl (by kernel_rfl) rfl ?_
          refine VAny.movesI (is := [5]) (by kernel_rfl) (by simp) rfl (all1 ?_)
          · refine VMv.alloc rfl rfl rfl rfl (by kernel_rfl) rfl ?_
            refine VAny.movesI (is := [6]) (by kernel_rfl) (by simp) rfl (all1 ?_)
            · refine VMv.store rfl rfl rfl (by rfl) rfl rfl rfl rfl rfl rfl (Nat.le_of_ble_eq_true (by rfl)) rfl ?_
              refine VAny.movesI (is := [7]) (by kernel_rfl) (by simp) rfl (all1 ?_)
              · refine VMv.store rfl rfl rfl (by rfl) rfl rfl rfl rfl rfl rfl (Nat.le_of_ble_eq_true (by rfl)) rfl ?_
                refine VAny.done ?_
                (refine Less.mk (l := [0, 1, 3, 5, 6]) hcx ?ss ?hh rfl (by decide) rfl rfl; (case ss => repeat (first | exact SubS.nil | refine SubS.cons rfl rfl ?_ | refine SubS.cons (congrArg (fun z => some (V.val (Value.int IntKind.i64 z))) (by omega)) rfl ?_ | refine SubS.cons (congrArg (fun z => some (V.val (Value.bool z))) (by assumption)) rfl ?_)); (case hh => repeat (first | exact SubH.nil | refine SubH.cons rfl rfl rfl ?_)))
        · refine VMv.alloc rfl rfl rfl rfl (by kernel_rfl) rfl ?_
          refine VAny.movesI (is := [4]) (by kernel_rfl) (by simp) rfl (all1 ?_)
          · refine VMv.alloc rfl rfl rfl rfl (by kernel_rfl) rfl ?_
            refine VAny.movesI (is := [6]) (by kernel_rfl) (by simp) rfl (all1 ?_)
            · refine VMv.store rfl rfl rfl (by rfl) rfl rfl rfl rfl rfl rfl (Nat.le_of_ble_eq_true (by rfl)) rfl ?_
              refine VAny.movesI (is := [7]) (by kernel_rfl) (by simp) rfl (all1 ?_)
              · refine VMv.store rfl rfl rfl (by rfl) rfl rfl rfl rfl rfl rfl (Nat.le_of_ble_eq_true (by rfl)) rfl ?_
                refine VAny.done ?_
                (refine Less.mk (l := [0, 1, 3, 6, 5]) hcx ?ss ?hh rfl (by decide) rfl rfl; (case ss => repeat (first | exact SubS.nil | refine SubS.cons rfl rfl ?_ | refine SubS.cons (congrArg (fun z => some (V.val (Value.int IntKind.i64 z))) (by omega)) rfl ?_ | refine SubS.cons (congrArg (fun z => some (V.val (Value.bool z))) (by assumption)) rfl ?_)); (case hh => repeat (first | exact SubH.nil | refine SubH.cons rfl rfl rfl ?_)))
      · refine VMv.alloc rfl rfl rfl rfl (by kernel_rfl) rfl ?_
        refine VAny.movesI (is := [3, 5]) (by kernel_rfl) (by simp) rfl (allC ?_ (all1 ?_))
        · (refine VMv.callL (ch := []) [] rfl rfl Try.func13 rfl rfl rfl rfl rfl rfl ?hh (by decide) rfl rfl rfl (own_o g hg) rfl (by rfl) rfl ?_; (case hh => repeat (first | exact SubH.nil | refine SubH.cons rfl rfl rfl ?_)))
          refine VAny.movesI (is := [5]) (by kernel_rfl) (by simp) rfl (all1 ?_)
          · refine VMv.alloc rfl rfl rfl rfl (by kernel_rfl) rfl ?_
            refine VAny.movesI (is := [6]) (by kernel_rfl) (by simp) rfl (all1 ?_)
            · refine VMv.store rfl rfl rfl (by rfl) rfl rfl rfl rfl rfl rfl (Nat.le_of_ble_eq_true (by rfl)) rfl ?_
              refine VAny.movesI (is := [7]) (by kernel_rfl) (by simp) rfl (all1 ?_)
              · refine VMv.store rfl rfl rfl (by rfl) rfl rfl rfl rfl rfl rfl (Nat.le_of_ble_eq_true (by rfl)) rfl ?_
                refine VAny.done ?_
                (refine Less.mk (l := [0, 1, 4, 3, 6]) hcx ?ss ?hh rfl (by decide) rfl rfl; (case ss => repeat (first | exact SubS.nil | refine SubS.cons rfl rfl ?_ | refine SubS.cons (congrArg (fun z => some (V.val (Value.int IntKind.i64 z))) (by omega)) rfl ?_ | refine SubS.cons (congrArg (fun z => some (V.val (Value.bool z))) (by assumption)) rfl ?_)); (case hh => repeat (first | exact SubH.nil | refine SubH.cons rfl rfl rfl ?_)))
        · refine VMv.alloc rfl rfl rfl rfl (by kernel_rfl) rfl ?_
          refine VAny.movesI (is := [3]) (by kernel_rfl) (by simp) rfl (all1 ?_)
          · (refine VMv.callL (ch := []) [] rfl rfl Try.func13 rfl rfl rfl rfl rfl rfl ?hh (by decide) rfl rfl rfl (own_o g hg) rfl (by rfl) rfl ?_; (case hh => repeat (first | exact SubH.nil | refine SubH.cons rfl rfl rfl ?_)))
            refine VAny.movesI (is := [6]) (by kernel_rfl) (by simp) rfl (all1 ?_)
            · refine VMv.store rfl rfl rfl (by rfl) rfl rfl rfl rfl rfl rfl (Nat.le_of_ble_eq_true (by rfl)) rfl ?_
              refine VAny.movesI (is := [7]) (by kernel_rfl) (by simp) rfl (all1 ?_)
              · refine VMv.store rfl rfl rfl (by rfl) rfl rfl rfl rfl rfl rfl (Nat.le_of_ble_eq_true (by rfl)) rfl ?_
                refine VAny.done ?_
                (refine Less.mk (l := [0, 1, 5, 3, 4]) hcx ?ss ?hh rfl (by decide) rfl rfl; (case ss => repeat (first | exact SubS.nil | refine SubS.cons rfl rfl ?_ | refine SubS.cons (congrArg (fun z => some (V.val (Value.int IntKind.i64 z))) (by omega)) rfl ?_ | refine SubS.cons (congrArg (fun z => some (V.val (Value.bool z))) (by assumption)) rfl ?_)); (case hh => repeat (first | exact SubH.nil | refine SubH.cons rfl rfl rfl ?_)))
      · refine VMv.alloc rfl rfl rfl rfl (by kernel_rfl) rfl ?_
        refine VAny.movesI (is := [3, 4]) (by kernel_rfl) (by simp) rfl (allC ?_ (all1 ?_))
        · (refine VMv.callL (ch := []) [] rfl rfl Try.func13 rfl rfl rfl rfl rfl rfl ?hh (by decide) rfl rfl rfl (own_o g hg) rfl (by rfl) rfl ?_; (case hh => repeat (first | exact SubH.nil | refine SubH.cons rfl rfl rfl ?_)))
          refine VAny.movesI (is := [4]) (by kernel_rfl) (by simp) rfl (all1 ?_)
          · refine VMv.alloc rfl rfl rfl rfl (by kernel_rfl) rfl ?_
            refine VAny.movesI (is := [6]) (by kernel_rfl) (by simp) rfl (all1 ?_)
            · refine VMv.store rfl rfl rfl (by rfl) rfl rfl rfl rfl rfl rfl (Nat.le_of_ble_eq_true (by rfl)) rfl ?_
              refine VAny.movesI (is := [7]) (by kernel_rfl) (by simp) rfl (all1 ?_)
              · refine VMv.store rfl rfl rfl (by rfl) rfl rfl rfl rfl rfl rfl (Nat.le_of_ble_eq_true (by rfl)) rfl ?_
                refine VAny.done ?_
                (refine Less.mk (l := [0, 1, 4, 6, 3]) hcx ?ss ?hh rfl (by decide) rfl rfl; (case ss => repeat (first | exact SubS.nil | refine SubS.cons rfl rfl ?_ | refine SubS.cons (congrArg (fun z => some (V.val (Value.int IntKind.i64 z))) (by omega)) rfl ?_ | refine SubS.cons (congrArg (fun z => some (V.val (Value.bool z))) (by assumption)) rfl ?_)); (case hh => repeat (first | exact SubH.nil | refine SubH.cons rfl rfl rfl ?_)))
        · refine VMv.alloc rfl rfl rfl rfl (by kernel_rfl) rfl ?_
          refine VAny.movesI (is := [3]) (by kernel_rfl) (by simp) rfl (all1 ?_)
          · (refine VMv.callL (ch := []) [] rfl rfl Try.func13 rfl rfl rfl rfl rfl rfl ?hh (by decide) rfl rfl rfl (own_o g hg) rfl (by rfl) rfl ?_; (case hh => repeat (first | exact SubH.nil | refine SubH.cons rfl rfl rfl ?_)))
            refine VAny.movesI (is := [6]) (by kernel_rfl) (by simp) rfl (all1 ?_)
            · refine VMv.store rfl rfl rfl (by rfl) rfl rfl rfl rfl rfl rfl (Nat.le_of_ble_eq_true (by rfl)) rfl ?_
              refine VAny.movesI (is := [7]) (by kernel_rfl) (by simp) rfl (all1 ?_)
              · refine VMv.store rfl rfl rfl (by rfl) rfl rfl rfl rfl rfl rfl (Nat.le_of_ble_eq_true (by rfl)) rfl ?_
                refine VAny.done ?_
                (refine Less.mk (l := [0, 1, 5, 4, 3]) hcx ?ss ?hh rfl (by decide) rfl rfl; (case ss => repeat (first | exact SubS.nil | refine SubS.cons rfl rfl ?_ | refine SubS.cons (congrArg (fun z => some (V.val (Value.int IntKind.i64 z))) (by omega)) rfl ?_ | refine SubS.cons (congrArg (fun z => some (V.val (Value.bool z))) (by assumption)) rfl ?_)); (case hh => repeat (first | exact SubH.nil | refine SubH.cons rfl rfl rfl ?_)))
    · refine VMv.alloc rfl rfl rfl rfl (by kernel_rfl) rfl ?_
      refine VAny.movesI (is := [1, 5]) (by kernel_rfl) (by simp) rfl (allC ?_ (all1 ?_))
      · (refine VMv.callL (ch := []) [] rfl rfl Try.func13 rfl rfl rfl rfl rfl rfl ?hh (by decide) rfl rfl rfl (own_o g hg) rfl (by rfl) rfl ?_; (case hh => repeat (first | exact SubH.nil | refine SubH.cons rfl rfl rfl ?_)))
        refine VAny.movesI (is := [3, 5]) (by kernel_rfl) (by simp) rfl (allC ?_ (all1 ?_))
        · (refine VMv.callL (ch := []) [] rfl rfl Try.func13 rfl rfl rfl rfl rfl rfl ?hh (by decide) rfl rfl rfl (own_o g hg) rfl (by rfl) rfl ?_; (case hh => repeat (first | exact SubH.nil | refine SubH.cons rfl rfl rfl ?_)))
          refine VAny.movesI (is := [5]) (by kernel_rfl) (by simp) rfl (all1 ?_)
          · refine VMv.alloc rfl rfl rfl rfl (by kernel_rfl) rfl ?_
            refine VAny.movesI (is := [6]) (by kernel_rfl) (by simp) rfl (all1 ?_)
            · refine VMv.store rfl rfl rfl (by rfl) rfl rfl rfl rfl rfl rfl (Nat.le_of_ble_eq_true (by rfl)) rfl ?_
              refine VAny.movesI (is := [7]) (by kernel_rfl) (by simp) rfl (all1 ?_)
              · refine VMv.store rfl rfl rfl (by rfl) rfl rfl rfl rfl rfl rfl (Nat.le_of_ble_eq_true (by rfl)) rfl ?_
                refine VAny.done ?_
                (refine Less.mk (l := [0, 2, 4, 1, 6]) hcx ?ss ?hh rfl (by decide) rfl rfl; (case ss => repeat (first | exact SubS.nil | refine SubS.cons rfl rfl ?_ | refine SubS.cons (congrArg (fun z => some (V.val (Value.int IntKind.i64 z))) (by omega)) rfl ?_ | refine SubS.cons (congrArg (fun z => some (V.val (Value.bool z))) (by assumption)) rfl ?_)); (case hh => repeat (first | exact SubH.nil | refine SubH.cons rfl rfl rfl ?_)))
        · refine VMv.alloc rfl rfl rfl rfl (by kernel_rfl) rfl ?_
          refine VAny.movesI (is := [3]) (by kernel_rfl) (by simp) rfl (all1 ?_)
          · (refine VMv.callL (ch := []) [] rfl rfl Try.func13 rfl rfl rfl rfl rfl rfl ?hh (by decide) rfl rfl rfl (own_o g hg) rfl (by rfl) rfl ?_; (case hh => repeat (first | exact SubH.nil | refine SubH.cons rfl rfl rfl ?_)))
            refine VAny.movesI (is := [6]) (by kernel_rfl) (by simp) rfl (all1 ?_)
            · refine VMv.store rfl rfl rfl (by rfl) rfl rfl rfl rfl rfl rfl (Nat.le_of_ble_eq_true (by rfl)) rfl ?_
              refine VAny.movesI (is := [7]) (by kernel_rfl) (by simp) rfl (all1 ?_)
              · refine VMv.store rfl rfl rfl (by rfl) rfl rfl rfl rfl rfl rfl (Nat.le_of_ble_eq_true (by rfl)) rfl ?_
                refine VAny.done ?_
                (refine Less.mk (l := [0, 2, 5, 1, 4]) hcx ?ss ?hh rfl (by decide) rfl rfl; (case ss => repeat (first | exact SubS.nil | refine SubS.cons rfl rfl ?_ | refine SubS.cons (congrArg (fun z => some (V.val (Value.int IntKind.i64 z))) (by omega)) rfl ?_ | refine SubS.cons (congrArg (fun z => some (V.val (Value.bool z))) (by assumption)) rfl ?_)); (case hh => repeat (first | exact SubH.nil | refine SubH.cons rfl rfl rfl ?_)))
      · refine VMv.alloc rfl rfl rfl rfl (by kernel_rfl) rfl ?_
        refine VAny.movesI (is := [1]) (by kernel_rfl) (by simp) rfl (all1 ?_)
        · (refine VMv.callL (ch := []) [] rfl rfl Try.func13 rfl rfl rfl rfl rfl rfl ?hh (by decide) rfl rfl rfl (own_o g hg) rfl (by rfl) rfl ?_; (case hh => repeat (first | exact SubH.nil | refine SubH.cons rfl rfl rfl ?_)))
          refine VAny.movesI (is := [3]) (by kernel_rfl) (by simp) rfl (all1 ?_)
          · (refine VMv.callL (ch := []) [] rfl rfl Try.func13 rfl rfl rfl rfl rfl rfl ?hh (by decide) rfl rfl rfl (own_o g hg) rfl (by rfl) rfl ?_; (case hh => repeat (first | exact SubH.nil | refine SubH.cons rfl rfl rfl ?_)))
            refine VAny.movesI (is := [6]) (by kernel_rfl) (by simp) rfl (all1 ?_)
            · refine VMv.store rfl rfl rfl (by rfl) rfl rfl rfl rfl rfl rfl (Nat.le_of_ble_eq_true (by rfl)) rfl ?_
              refine VAny.movesI (is := [7]) (by kernel_rfl) (by simp) rfl (all1 ?_)
              · refine VMv.store rfl rfl rfl (by rfl) rfl rfl rfl rfl rfl rfl (Nat.le_of_ble_eq_true (by rfl)) rfl ?_
                refine VAny.done ?_
                (refine Less.mk (l := [0, 3, 5, 1, 2]) hcx ?ss ?hh rfl (by decide) rfl rfl; (case ss => repeat (first | exact SubS.nil | refine SubS.cons rfl rfl ?_ | refine SubS.cons (congrArg (fun z => some (V.val (Value.int IntKind.i64 z))) (by omega)) rfl ?_ | refine SubS.cons (congrArg (fun z => some (V.val (Value.bool z))) (by assumption)) rfl ?_)); (case hh => repeat (first | exact SubH.nil | refine SubH.cons rfl rfl rfl ?_)))
    · refine VMv.alloc rfl rfl rfl rfl (by kernel_rfl) rfl ?_
      refine VAny.movesI (is := [1, 4]) (by kernel_rfl) (by simp) rfl (allC ?_ (all1 ?_))
      · (refine VMv.callL (ch := []) [] rfl rfl Try.func13 rfl rfl rfl rfl rfl rfl ?hh (by decide) rfl rfl rfl (own_o g hg) rfl (by rfl) rfl ?_; (case hh => repeat (first | exact SubH.nil | refine SubH.cons rfl rfl rfl ?_)))
        refine VAny.movesI (is := [3, 4]) (by kernel_rfl) (by simp) rfl (allC ?_ (all1 ?_))
        · (refine VMv.callL (ch := []) [] rfl rfl Try.func13 rfl rfl rfl rfl rfl rfl ?hh (by decide) rfl rfl rfl (own_o g hg) rfl (by rfl) rfl ?_; (case hh => repeat (first | exact SubH.nil | refine SubH.cons rfl rfl rfl ?_)))
          refine VAny.movesI (is := [4]) (by kernel_rfl) (by simp) rfl (all1 ?_)
          · refine VMv.alloc rfl rfl rfl rfl (by kernel_rfl) rfl ?_
            refine VAny.movesI (is := [6]) (by kernel_rfl) (by simp) rfl (all1 ?_)
            · refine VMv.store rfl rfl rfl (by rfl) rfl rfl rfl rfl rfl rfl (Nat.le_of_ble_eq_true (by rfl)) rfl ?_
              refine VAny.movesI (is := [7]) (by kernel_rfl) (by simp) rfl (all1 ?_)
              · refine VMv.store rfl rfl rfl (by rfl) rfl rfl rfl rfl rfl rfl (Nat.le_of_ble_eq_true (by rfl)) rfl ?_
                refine VAny.done ?_
                (refine Less.mk (l := [0, 2, 4, 6, 1]) hcx ?ss ?hh rfl (by decide) rfl rfl; (case ss => repeat (first | exact SubS.nil | refine SubS.cons rfl rfl ?_ | refine SubS.cons (congrArg (fun z => some (V.val (Value.int IntKind.i64 z))) (by omega)) rfl ?_ | refine SubS.cons (congrArg (fun z => some (V.val (Value.bool z))) (by assumption)) rfl ?_)); (case hh => repeat (first | exact SubH.nil | refine SubH.cons rfl rfl rfl ?_)))
        · refine VMv.alloc rfl rfl rfl rfl (by kernel_rfl) rfl ?_
          refine VAny.movesI (is := [3]) (by kernel_rfl) (by simp) rfl (all1 ?_)
          · (refine VMv.callL (ch := []) [] rfl rfl Try.func13 rfl rfl rfl rfl rfl rfl ?hh (by decide) rfl rfl rfl (own_o g hg) rfl (by rfl) rfl ?_; (case hh => repeat (first | exact SubH.nil | refine SubH.cons rfl rfl rfl ?_)))
            refine VAny.movesI (is := [6]) (by kernel_rfl) (by simp) rfl (all1 ?_)
            · refine VMv.store rfl rfl rfl (by rfl) rfl rfl rfl rfl rfl rfl (Nat.le_of_ble_eq_true (by rfl)) rfl ?_
              refine VAny.movesI (is := [7]) (by kernel_rfl) (by simp) rfl (all1 ?_)
              · refine VMv.store rfl rfl rfl (by rfl) rfl rfl rfl rfl rfl rfl (Nat.le_of_ble_eq_true (by rfl)) rfl ?_
                refine VAny.done ?_
                (refine Less.mk (l := [0, 2, 5, 4, 1]) hcx ?ss ?hh rfl (by decide) rfl rfl; (case ss => repeat (first | exact SubS.nil | refine SubS.cons rfl rfl ?_ | refine SubS.cons (congrArg (fun z => some (V.val (Value.int IntKind.i64 z))) (by omega)) rfl ?_ | refine SubS.cons (congrArg (fun z => some (V.val (Value.bool z))) (by assumption)) rfl ?_)); (case hh => repeat (first | exact SubH.nil | refine SubH.cons rfl rfl rfl ?_)))
      · refine VMv.alloc rfl rfl rfl rfl (by kernel_rfl) rfl ?_
        refine VAny.movesI (is := [1]) (by kernel_rfl) (by simp) rfl (all1 ?_)
        · (refine VMv.callL (ch := []) [] rfl rfl Try.func13 rfl rfl rfl rfl rfl rfl ?hh (by decide) rfl rfl rfl (own_o g hg) rfl (by rfl) rfl ?_; (case hh => repeat (first | exact SubH.nil | refine SubH.cons rfl rfl rfl ?_)))
          refine VAny.movesI (is := [3]) (by kernel_rfl) (by simp) rfl (all1 ?_)
          · (refine VMv.callL (ch := []) [] rfl rfl Try.func13 rfl rfl rfl rfl rfl rfl ?hh (by decide) rfl rfl rfl (own_o g hg) rfl (by rfl) rfl ?_; (case hh => repeat (first | exact SubH.nil | refine SubH.cons rfl rfl rfl ?_)))
            refine VAny.movesI (is := [6]) (by kernel_rfl) (by simp) rfl (all1 ?_)
            · refine VMv.store rfl rfl rfl (by rfl) rfl rfl rfl rfl rfl rfl (Nat.le_of_ble_eq_true (by rfl)) rfl ?_
              refine VAny.movesI (is := [7]) (by kernel_rfl) (by simp) rfl (all1 ?_)
              · refine VMv.store rfl rfl rfl (by rfl) rfl rfl rfl rfl rfl rfl (Nat.le_of_ble_eq_true (by rfl)) rfl ?_
                refine VAny.done ?_
                (refine Less.mk (l := [0, 3, 5, 2, 1]) hcx ?ss ?hh rfl (by decide) rfl rfl; (case ss => repeat (first | exact SubS.nil | refine SubS.cons rfl rfl ?_ | refine SubS.cons (congrArg (fun z => some (V.val (Value.int IntKind.i64 z))) (by omega)) rfl ?_ | refine SubS.cons (congrArg (fun z => some (V.val (Value.bool z))) (by assumption)) rfl ?_)); (case hh => repeat (first | exact SubH.nil | refine SubH.cons rfl rfl rfl ?_)))
  (repeat (first | ((with_reducible refine VOps.same ?_); (first | (refine VOps.nil ?_; try dsimp only [VThen, VBlock]) | refine VOps.vp (by rfl) (by kernel_rfl) (by rfl) (VPure.assign rfl rfl) ?_)) | refine VCode.seq ?_ | refine VCode.region rfl ?_ | refine VCode.block ?_))
  refine VCode.loop (fun m st => ∃ k : Nat, k ≤ g.rules.length ∧ m = g.rules.length - k ∧ st = ⟨[(6, .val (.int .i64 (k : Int))), (1, .ptr 0 0), (3, .val (.int .i64 (g.names.length : Int))), (4, .ptr 3 0), (5, .ptr 4 0)], [(0, gO g), (1, .arr 46 2 ((part oneR g.rules k).map encR)), (2, .arr 46 2 ((part wideR g.rules k).map encR)), (3, .cells 25 [.sl 1 (g.terms.map encS), .sl 1 (g.names.map encS), .ref 1]), (4, .cells 25 [.sl 1 (g.terms.map encS), .sl 1 (g.names.map encS), .ref 2])], 5⟩) g.rules.length ?_ ?_
  · (refine Less.mk (l := [0, 1, 2, 3, 4]) hcx ?ss ?hh rfl (by decide) rfl ⟨0, by omega, by omega, rfl⟩; (case ss => repeat (first | exact SubS.nil | refine SubS.cons rfl rfl ?_ | refine SubS.cons (congrArg (fun z => some (V.val (Value.int IntKind.i64 z))) (by omega)) rfl ?_ | refine SubS.cons (congrArg (fun z => some (V.val (Value.bool z))) (by assumption)) rfl ?_)); (case hh => repeat (first | exact SubH.nil | refine SubH.cons rfl rfl rfl ?_)))
  rintro m st ⟨k, hk, rfl, rfl⟩
  cases hq : g.rules[k]? with
  | some r =>
    have hlt : k < g.rules.length := (List.getElem?_eq_some_iff.1 hq).1
    have hrr := hg.rights r (List.mem_of_getElem? hq)
    have hp1 := part_get (f := oneR) hq
    have hp2 := part_get (f := wideR) hq
    (repeat (first | ((with_reducible refine VOps.same ?_); (first | (refine VOps.nil ?_; try dsimp only [VThen, VBlock]) | refine VOps.vp (by rfl) (by kernel_rfl) (by rfl) (VPure.move rfl rfl) ?_ | refine VOps.vp (by rfl) (by kernel_rfl) (by rfl) (VPure.len_map TI.und' rfl rfl) ?_ | refine VOps.vp (by rfl) (by kernel_rfl) (by rfl) (VPure.field_ptr rfl rfl rfl) ?_ | refine VOps.vv (by rfl) (by kernel_rfl) (by rfl) (VLoad.box1 rfl rfl rfl rfl (by rfl) (by decide)) ?_ | refine VOps.vp (by rfl) (by kernel_rfl) (by rfl) (VPure.lss rfl rfl rfl) ?_)) | refine VCode.seq ?_ | refine VCode.region rfl ?_))
    refine VCode.cond_t rfl (decide_eq_true (by omega)) ?_
    (repeat (first | refine VCode.seq ?_ | refine VCode.block ?_ | refine VCode.skip ?_))
    refine VCode.thenTo ⟨[(6, .val (.int .i64 (k : Int))), (1, .ptr 0 0), (3, .val (.int .i64 (g.names.length : Int))), (4, .ptr 3 0), (5, .ptr 4 0)], [(0, gO g), (1, .arr 46 2 ((part oneR g.rules (k + 1)).map encR)), (2, .arr 46 2 ((part wideR g.rules k).map encR)), (3, .cells 25 [.sl 1 (g.terms.map encS), .sl 1 (g.names.map encS), .ref 1]), (4, .cells 25 [.sl 1 (g.terms.map encS), .sl 1 (g.names.map encS), .ref 2])], 5⟩ ?_ ?_
    · refine VCode.drawAny [1] (by kernel_rfl) rfl ?_
      refine VAny.pureI (i := 0) rfl rfl (by kernel_rfl) rfl (VPure.field_ptr rfl rfl rfl) ?_
      refine VAny.loadI (i := 1) rfl rfl (by kernel_rfl) rfl (VLoad.box1 rfl rfl rfl rfl (by rfl) (by decide)) ?_
      refine VAny.pureI (i := 2) rfl rfl (by kernel_rfl) rfl (VPure.move rfl rfl) ?_
      refine VAny.pureI (i := 3) rfl rfl (by kernel_rfl) rfl (VPure.field_ptr rfl rfl rfl) ?_
      refine VAny.loadI (i := 4) rfl rfl (by kernel_rfl) rfl (VLoad.box1 rfl rfl rfl rfl (by rfl) (by decide)) ?_
      refine VAny.pureI (i := 5) rfl rfl (by kernel_rfl) rfl (VPure.move rfl rfl) ?_
      refine VAny.pureI (i := 6) rfl rfl (by kernel_rfl) rfl (VPure.idx_arrm rfl rfl rfl rfl (by assumption)) ?_
      refine VAny.pureI (i := 7) rfl rfl (by kernel_rfl) rfl (VPure.field_ael rfl rfl rfl (map_ne (by assumption))) ?_
      refine VAny.pureI (i := 9) rfl rfl (by kernel_rfl) rfl (VPure.field_ptr rfl rfl rfl) ?_
      refine VAny.loadI (i := 10) rfl rfl (by kernel_rfl) rfl (VLoad.box1 rfl rfl rfl rfl (by rfl) (by decide)) ?_
      refine VAny.pureI (i := 11) rfl rfl (by kernel_rfl) rfl (VPure.move rfl rfl) ?_
      refine VAny.pureI (i := 12) rfl rfl (by kernel_rfl) rfl (VPure.idx_map rfl rfl rfl (by assumption)) ?_
      refine VAny.pureI (i := 13) rfl rfl (by kernel_rfl) rfl (VPure.field_el rfl rfl) ?_
      refine VAny.loadI (i := 14) rfl rfl (by kernel_rfl) rfl (VLoad.el1 rfl rfl rfl (by rfl)) ?_
      refine VAny.pureI (i := 15) rfl rfl (by kernel_rfl) rfl (VPure.len_map TI.und' rfl rfl) ?_
      refine VAny.pureI (i := 16) rfl rfl (by kernel_rfl) rfl (VPure.min rfl rfl rfl) ?_
      refine VAny.says (d := 57) (v := .val (.int .i64 ((min1 r.right.length : Nat) : Int))) rfl (by rw [min1_is]) ?_
      refine VAny.movesI (is := [8]) (by kernel_rfl) (by simp) rfl (all1 ?_)
      · refine VMv.load rfl rfl rfl (VLoad.arr1m rfl rfl rfl (by rfl) (by assumption) (by rfl) rfl (by decide)) ?_
        refine VAny.pureI (i := 17) rfl rfl (by kernel_rfl) rfl (VPure.cut_take rfl rfl rfl (min1_le _).1) ?_
        refine VAny.pureI (i := 18) rfl rfl (by kernel_rfl) rfl (VPure.idx_arrm rfl rfl rfl rfl (by assumption)) ?_
        refine VAny.pureI (i := 19) rfl rfl (by kernel_rfl) rfl (VPure.field_ael rfl rfl rfl (map_ne (by assumption))) ?_
        refine VAny.movesI (is := [20]) (by kernel_rfl) (by simp) rfl (all1 ?_)
        · refine VMv.store_arrm (u' := oneR r) (ys := part oneR g.rules (k + 1)) rfl rfl rfl (by rfl) rfl rfl rfl rfl (by rfl) (by assumption) rfl rfl (Nat.le_of_ble_eq_true (by rfl)) (by rfl) (part_set hq) ?_
          refine VAny.done ?_
          (refine Less.mk (l := [0, 1, 2, 3, 4]) hcx ?ss ?hh rfl (by decide) rfl rfl; (case ss => repeat (first | exact SubS.nil | refine SubS.cons rfl rfl ?_ | refine SubS.cons (congrArg (fun z => some (V.val (Value.int IntKind.i64 z))) (by omega)) rfl ?_ | refine SubS.cons (congrArg (fun z => some (V.val (Value.bool z))) (by assumption)) rfl ?_)); (case hh => repeat (first | exact SubH.nil | refine SubH.cons rfl rfl rfl ?_)))
    (repeat (first | ((with_reducible refine VOps.same ?_); (first | (refine VOps.nil ?_; try dsimp only [VThen, VBlock]) | refine VOps.vp (by rfl) (by kernel_rfl) (by rfl) (VPure.move rfl rfl) ?_ | refine VOps.vp (by rfl) (by kernel_rfl) (by rfl) (VPure.len_map TI.und' rfl rfl) ?_ | refine VOps.vp (by rfl) (by kernel_rfl) (by rfl) (VPure.idx_map rfl rfl rfl (by assumption)) ?_ | refine VOps.vp (by rfl) (by kernel_rfl) (by rfl) (VPure.field_el rfl rfl) ?_ | refine VOps.vp (by rfl) (by kernel_rfl) (by rfl) (VPure.field_ptr rfl rfl rfl) ?_ | refine VOps.vv (by rfl) (by kernel_rfl) (by rfl) (VLoad.el1 rfl rfl rfl (by rfl)) ?_ | refine VOps.vv (by rfl) (by kernel_rfl) (by rfl) (VLoad.box1 rfl rfl rfl rfl (by rfl) (by decide)) ?_ | refine VOps.vp (by rfl) (by kernel_rfl) (by rfl) (VPure.gtr rfl rfl rfl) ?_)) | refine VCode.seq ?_ | refine VCode.region rfl ?_))
    refine VCode.cond rfl (fun h6 => ?_) (fun h6 => ?_)
    · skip
      (repeat (first | refine VCode.seq ?_ | refine VCode.region rfl ?_))
      refine VOps.pure rfl Try.func29 rfl (by kernel_rfl) rfl rfl rfl rfl rfl rfl rfl (ewakes_v) ?_
      (repeat (first | ((with_reducible refine VOps.same ?_); (first | (refine VOps.nil ?_; try dsimp only [VThen, VBlock]) | refine VOps.vp (by rfl) (by kernel_rfl) (by rfl) (VPure.assign rfl rfl) ?_))))
      refine VCode.retD rfl rfl (.tmp rfl .nil) ?_
      rfl
    (repeat (first | refine VCode.skip ?_))
    refine VCode.inTo ⟨[(6, .val (.int .i64 (k : Int))), (1, .ptr 0 0), (3, .val (.int .i64 (g.names.length : Int))), (4, .ptr 3 0), (5, .ptr 4 0)], [(0, gO g), (1, .arr 46 2 ((part oneR g.rules (k + 1)).map encR)), (2, .arr 46 2 ((part wideR g.rules (k + 1)).map encR)), (3, .cells 25 [.sl 1 (g.terms.map encS), .sl 1 (g.names.map encS), .ref 1]), (4, .cells 25 [.sl 1 (g.terms.map encS), .sl 1 (g.names.map encS), .ref 2])], 5⟩ ?_ ?_
    · refine VCode.drawAny [2, 5, 6, 7, 8] (by kernel_rfl) rfl ?_
      refine VAny.pureI (i := 0) rfl rfl (by kernel_rfl) rfl (VPure.field_ptr rfl rfl rfl) ?_
      refine VAny.loadI (i := 1) rfl rfl (by kernel_rfl) rfl (VLoad.box1 rfl rfl rfl rfl (by rfl) (by decide)) ?_
      refine VAny.pureI (i := 2) rfl rfl (by kernel_rfl) rfl (VPure.move rfl rfl) ?_
      refine VAny.pureI (i := 4) rfl rfl (by kernel_rfl) rfl (VPure.field_ptr rfl rfl rfl) ?_
      refine VAny.loadI (i := 5) rfl rfl (by kernel_rfl) rfl (VLoad.box1 rfl rfl rfl rfl (by rfl) (by decide)) ?_
      refine VAny.pureI (i := 6) rfl rfl (by kernel_rfl) rfl (VPure.move rfl rfl) ?_
      refine VAny.pureI (i := 7) rfl rfl (by kernel_rfl) rfl (VPure.idx_map rfl rfl rfl (by assumption)) ?_
      refine VAny.pureI (i := 8) rfl rfl (by kernel_rfl) rfl (VPure.field_el rfl rfl) ?_
      refine VAny.loadI (i := 9) rfl rfl (by kernel_rfl) rfl (VLoad.el1 rfl rfl rfl (by rfl)) ?_
      refine VAny.movesI (is := [3, 11]) (by kernel_rfl) (by simp) rfl (allC ?_ (all1 ?_))
      · refine VMv.one rfl rfl rfl rfl (by rfl) (by decide) (by decide) rfl (by rfl) (by rfl) ?_
        refine VAny.movesI (is := [10, 11]) (by kernel_rfl) (by simp) rfl (allC ?_ (all1 ?_))
        · refine VMv.append (zs := (0 :: r.right).map encI) rfl rfl rfl rfl (by rfl) (by decide) rfl (.arr rfl) rfl rfl (.sl) (by simp only [List.length_append, List.length_cons, List.length_nil, List.length_map]; unfold most; omega) (by simp only [List.length_append, List.length_cons, List.length_nil, List.length_map]; unfold most; omega) rfl ( by rfl) ?_
          refine VAny.movesI (is := [11]) (by kernel_rfl) (by simp) rfl (all1 ?_)
          · refine VMv.one rfl rfl rfl rfl (by rfl) (by decide) (by decide) rfl (by rfl) (by rfl) ?_
            refine VAny.movesI (is := [12]) (by kernel_rfl) (by simp) rfl (all1 ?_)
            · refine VMv.append (zs := ((0 :: r.right) ++ [0]).map encI) rfl rfl rfl rfl (by rfl) (by decide) rfl (.arr rfl) rfl rfl (.arr rfl) (by simp only [List.length_append, List.length_cons, List.length_nil, List.length_map]; unfold most; omega) (by simp only [List.length_append, List.length_cons, List.length_nil, List.length_map]; unfold most; omega) rfl ( by rw [List.map_append]; rfl) ?_
              refine VAny.frz (id := 8) (((0 :: r.right) ++ [0]).map encI) rfl ?_
              refine VAny.pureI (i := 13) rfl rfl (by kernel_rfl) rfl (VPure.idx_arrm rfl rfl rfl rfl (by assumption)) ?_
              refine VAny.pureI (i := 14) rfl rfl (by kernel_rfl) rfl (VPure.field_ael rfl rfl rfl (map_ne (by assumption))) ?_
              refine VAny.movesI (is := [15]) (by kernel_rfl) (by simp) rfl (all1 ?_)
              · refine VMv.store_arrm (u' := wideR r) (ys := part wideR g.rules (k + 1)) rfl rfl rfl (by rfl) rfl rfl rfl rfl (by rfl) (by assumption) rfl rfl (Nat.le_of_ble_eq_true (by rfl)) (by rfl) (part_set hq) ?_
                refine VAny.done ?_
                (refine Less.mk (l := [0, 1, 2, 3, 4]) hcx ?ss ?hh rfl (by decide) rfl rfl; (case ss => repeat (first | exact SubS.nil | refine SubS.cons rfl rfl ?_ | refine SubS.cons (congrArg (fun z => some (V.val (Value.int IntKind.i64 z))) (by omega)) rfl ?_ | refine SubS.cons (congrArg (fun z => some (V.val (Value.bool z))) (by assumption)) rfl ?_)); (case hh => repeat (first | exact SubH.nil | refine SubH.cons rfl rfl rfl ?_)))
        · refine VMv.one rfl rfl rfl rfl (by rfl) (by decide) (by decide) rfl (by rfl) (by rfl) ?_
          refine VAny.movesI (is := [10]) (by kernel_rfl) (by simp) rfl (all1 ?_)
          · refine VMv.append (zs := (0 :: r.right).map encI) rfl rfl rfl rfl (by rfl) (by decide) rfl (.arr rfl) rfl rfl (.sl) (by simp only [List.length_append, List.length_cons, List.length_nil, List.length_map]; unfold most; omega) (by simp only [List.length_append, List.length_cons, List.length_nil, List.length_map]; unfold most; omega) rfl ( by rfl) ?_
            refine VAny.movesI (is := [12]) (by kernel_rfl) (by simp) rfl (all1 ?_)
            · refine VMv.append (zs := ((0 :: r.right) ++ [0]).map encI) rfl rfl rfl rfl (by rfl) (by decide) rfl (.arr rfl) rfl rfl (.arr rfl) (by simp only [List.length_append, List.length_cons, List.length_nil, List.length_map]; unfold most; omega) (by simp only [List.length_append, List.length_cons, List.length_nil, List.length_map]; unfold most; omega) rfl ( by rw [List.map_append]; rfl) ?_
              refine VAny.frz (id := 8) (((0 :: r.right) ++ [0]).map encI) rfl ?_
              refine VAny.pureI (i := 13) rfl rfl (by kernel_rfl) rfl (VPure.idx_arrm rfl rfl rfl rfl (by assumption)) ?_
              refine VAny.pureI (i := 14) rfl rfl (by kernel_rfl) rfl (VPure.field_ael rfl rfl rfl (map_ne (by assumption))) ?_
              refine VAny.movesI (is := [15]) (by kernel_rfl) (by simp) rfl (all1 ?_)
              · refine VMv.store_arrm (u' := wideR r) (ys := part wideR g.rules (k + 1)) rfl rfl rfl (by rfl) rfl rfl rfl rfl (by rfl) (by assumption) rfl rfl (Nat.le_of_ble_eq_true (by rfl)) (by rfl) (part_set hq) ?_
                refine VAny.done ?_
                (refine Less.mk (l := [0, 1, 2, 3, 4]) hcx ?ss ?hh rfl (by decide) rfl rfl; (case ss => repeat (first | exact SubS.nil | refine SubS.cons rfl rfl ?_ | refine SubS.cons (congrArg (fun z => some (V.val (Value.int IntKind.i64 z))) (by omega)) rfl ?_ | refine SubS.cons (congrArg (fun z => some (V.val (Value.bool z))) (by assumption)) rfl ?_)); (case hh => repeat (first | exact SubH.nil | refine SubH.cons rfl rfl rfl ?_)))
      · refine VMv.one rfl rfl rfl rfl (by rfl) (by decide) (by decide) rfl (by rfl) (by rfl) ?_
        refine VAny.movesI (is := [3]) (by kernel_rfl) (by simp) rfl (all1 ?_)
        · refine VMv.one rfl rfl rfl rfl (by rfl) (by decide) (by decide) rfl (by rfl) (by rfl) ?_
          refine VAny.movesI (is := [10]) (by kernel_rfl) (by simp) rfl (all1 ?_)
          · refine VMv.append (zs := (0 :: r.right).map encI) rfl rfl rfl rfl (by rfl) (by decide) rfl (.arr rfl) rfl rfl (.sl) (by simp only [List.length_append, List.length_cons, List.length_nil, List.length_map]; unfold most; omega) (by simp only [List.length_append, List.length_cons, List.length_nil, List.length_map]; unfold most; omega) rfl ( by rfl) ?_
            refine VAny.movesI (is := [12]) (by kernel_rfl) (by simp) rfl (all1 ?_)
            · refine VMv.append (zs := ((0 :: r.right) ++ [0]).map encI) rfl rfl rfl rfl (by rfl) (by decide) rfl (.arr rfl) rfl rfl (.arr rfl) (by simp only [List.length_append, List.length_cons, List.length_nil, List.length_map]; unfold most; omega) (by simp only [List.length_append, List.length_cons, List.length_nil, List.length_map]; unfold most; omega) rfl ( by rw [List.map_append]; rfl) ?_
              refine VAny.frz (id := 8) (((0 :: r.right) ++ [0]).map encI) rfl ?_
              refine VAny.pureI (i := 13) rfl rfl (by kernel_rfl) rfl (VPure.idx_arrm rfl rfl rfl rfl (by assumption)) ?_
              refine VAny.pureI (i := 14) rfl rfl (by kernel_rfl) rfl (VPure.field_ael rfl rfl rfl (map_ne (by assumption))) ?_
              refine VAny.movesI (is := [15]) (by kernel_rfl) (by simp) rfl (all1 ?_)
              · refine VMv.store_arrm (u' := wideR r) (ys := part wideR g.rules (k + 1)) rfl rfl rfl (by rfl) rfl rfl rfl rfl (by rfl) (by assumption) rfl rfl (Nat.le_of_ble_eq_true (by rfl)) (by rfl) (part_set hq) ?_
                refine VAny.done ?_
                (refine Less.mk (l := [0, 1, 2, 3, 4]) hcx ?ss ?hh rfl (by decide) rfl rfl; (case ss => repeat (first | exact SubS.nil | refine SubS.cons rfl rfl ?_ | refine SubS.cons (congrArg (fun z => some (V.val (Value.int IntKind.i64 z))) (by omega)) rfl ?_ | refine SubS.cons (congrArg (fun z => some (V.val (Value.bool z))) (by assumption)) rfl ?_)); (case hh => repeat (first | exact SubH.nil | refine SubH.cons rfl rfl rfl ?_)))
    (repeat (first | ((with_reducible refine VOps.same ?_); (first | (refine VOps.nil ?_; try dsimp only [VThen, VBlock]) | refine VOps.vp (by rfl) (by kernel_rfl) (by rfl) (VPure.move rfl rfl) ?_ | refine VOps.vp (by rfl) (by kernel_rfl) (by rfl) (VPure.assign rfl rfl) ?_ | refine VOps.vp (by rfl) (by kernel_rfl) (by rfl) (VPure.addK rfl rfl rfl (by omega)) ?_)) | refine VCode.region rfl ?_))
    (refine Less.mk (l := [0, 1, 2, 3, 4]) hcx ?ss ?hh rfl (by decide) rfl ⟨_, ?_, k + 1, by omega, rfl, rfl⟩; (case ss => repeat (first | exact SubS.nil | refine SubS.cons rfl rfl ?_ | refine SubS.cons (congrArg (fun z => some (V.val (Value.int IntKind.i64 z))) (by omega)) rfl ?_ | refine SubS.cons (congrArg (fun z => some (V.val (Value.bool z))) (by assumption)) rfl ?_)); (case hh => repeat (first | exact SubH.nil | refine SubH.cons rfl rfl rfl ?_)))
    omega
  | none =>
    have hge : g.rules.length ≤ k := List.getElem?_eq_none_iff.1 hq
    rw [part_all hge, part_all hge]
    (repeat (first | ((with_reducible refine VOps.same ?_); (first | (refine VOps.nil ?_; try dsimp only [VThen, VBlock]) | refine VOps.vp (by rfl) (by kernel_rfl) (by rfl) (VPure.move rfl rfl) ?_ | refine VOps.vp (by rfl) (by kernel_rfl) (by rfl) (VPure.len_map TI.und' rfl rfl) ?_ | refine VOps.vp (by rfl) (by kernel_rfl) (by rfl) (VPure.field_ptr rfl rfl rfl) ?_ | refine VOps.vv (by rfl) (by kernel_rfl) (by rfl) (VLoad.box1 rfl rfl rfl rfl (by rfl) (by decide)) ?_ | refine VOps.vp (by rfl) (by kernel_rfl) (by rfl) (VPure.lss rfl rfl rfl) ?_)) | refine VCode.seq ?_ | refine VCode.region rfl ?_))
    refine VCode.cond_f rfl (decide_eq_false (by omega)) ?_
    (repeat (first | ((with_reducible refine VOps.same ?_); (first | refine VOps.vv (by rfl) (by kernel_rfl) (by rfl) (VLoad.boxA rfl rfl rfl (by rfl) (Nat.le_of_ble_eq_true (by rfl)) (by decide)) ?_)) | refine VCode.seq ?_ | refine VCode.region rfl ?_ | refine VCode.exit ?_))
    refine VOps.freeze (id := 1) rfl ?_
    refine VOps.freeze (id := 2) rfl ?_
    refine VOps.pure rfl Try.func26 rfl (by kernel_rfl) rfl rfl rfl rfl rfl rfl rfl (rgood_v (oneG g) hs1) ?_
    (repeat (first | ((with_reducible refine VOps.same ?_); (first | (refine VOps.nil ?_; try dsimp only [VThen, VBlock])))))
    refine VCode.thenTo ⟨[(3, .val (.int .i64 (g.names.length : Int))), (5, .ptr 0 0)], [(0, gO (wideG g))], 1⟩ ?_ ?_
    · refine VCode.cond rfl (fun hA => ?_) (fun hA => ?_)
      · have hG1 : GoodG (oneG g) := of_decide_eq_true hA
        have l1 := eachOf_len hG1 [] soL
        have l2 := eachOf_len hG1 [] soR
        (repeat (first | refine VCode.seq ?_))
        refine VCode.thenTo ⟨[(7, .sl 1 ((eachOf (oneG g) [] soL).map encB)), (8, .sl 1 ((eachOf (oneG g) [] soR).map encB)), (3, .val (.int .i64 (g.names.length : Int))), (5, .ptr 0 0)], [(0, gO (wideG g))], 1⟩ ?_ ?_
        · refine VCode.drawAny [] (by kernel_rfl) rfl ?_
          refine VAny.loadI (i := 0) rfl rfl (by kernel_rfl) rfl (VLoad.boxA rfl rfl rfl (by rfl) (Nat.le_of_ble_eq_true (by rfl)) (by decide)) ?_
          refine VAny.loadI (i := 2) rfl rfl (by kernel_rfl) rfl (VLoad.boxA rfl rfl rfl (by rfl) (Nat.le_of_ble_eq_true (by rfl)) (by decide)) ?_
          refine VAny.movesI (is := [1]) (by kernel_rfl) (by simp) rfl (all1 ?_)
          · refine VMv.oo rfl rfl rfl rfl (VOp.gives rfl Try.func30 rfl rfl rfl rfl rfl rfl ((nil2 (left_v (oneG g) [] hs1 (by decide)))) rfl) ?_
            refine VAny.movesI (is := [3]) (by kernel_rfl) (by simp) rfl (all1 ?_)
            · refine VMv.oo rfl rfl rfl rfl (VOp.gives rfl Try.func32 rfl rfl rfl rfl rfl rfl ((nil2 (right_v (oneG g) [] hs1 (by decide)))) rfl) ?_
              refine VAny.pureI (i := 4) rfl rfl (by kernel_rfl) rfl (VPure.assign rfl rfl) ?_
              refine VAny.pureI (i := 5) rfl rfl (by kernel_rfl) rfl (VPure.assign rfl rfl) ?_
              refine VAny.done ?_
              (refine Less.mk (l := [4]) hcx ?ss ?hh rfl (by decide) rfl rfl; (case ss => repeat (first | exact SubS.nil | refine SubS.cons rfl rfl ?_ | refine SubS.cons (congrArg (fun z => some (V.val (Value.int IntKind.i64 z))) (by omega)) rfl ?_ | refine SubS.cons (congrArg (fun z => some (V.val (Value.bool z))) (by assumption)) rfl ?_)); (case hh => repeat (first | exact SubH.nil | refine SubH.cons rfl rfl rfl ?_)))
        (repeat (first | ((with_reducible refine VOps.same ?_); (first | refine VOps.vp (by rfl) (by kernel_rfl) (by rfl) (VPure.move rfl rfl) ?_ | refine VOps.vp (by rfl) (by kernel_rfl) (by rfl) (VPure.len_map TI.und' rfl rfl) ?_ | refine VOps.vp (by rfl) (by kernel_rfl) (by rfl) (VPure.nei rfl rfl rfl) ?_)) | refine VCode.seq ?_ | refine VCode.region rfl ?_))
        refine VOps.says (d := 95) (v := .val (.bool false)) rfl (by rw [l1]; simp) ?_
        (repeat (first | ((with_reducible refine VOps.same ?_); (first | (refine VOps.nil ?_; try dsimp only [VThen, VBlock]) | refine VOps.vp (by rfl) (by kernel_rfl) (by rfl) (VPure.move rfl rfl) ?_ | refine VOps.vp (by rfl) (by kernel_rfl) (by rfl) (VPure.len_map TI.und' rfl rfl) ?_ | refine VOps.vp (by rfl) (by kernel_rfl) (by rfl) (VPure.nei rfl rfl rfl) ?_ | refine VOps.vp (by rfl) (by kernel_rfl) (by rfl) (VPure.pick_f rfl rfl rfl) ?_))))
        refine VCode.cond_f rfl (by rw [l2]; simp) ?_
        (repeat (first | ((with_reducible refine VOps.same ?_); (first | (refine VOps.nil ?_; try dsimp only [VThen, VBlock]) | refine VOps.vp (by rfl) (by kernel_rfl) (by rfl) (VPure.assign rfl rfl) ?_)) | refine VCode.seq ?_ | refine VCode.region rfl ?_ | refine VCode.block ?_ | refine VCode.skip ?_))
        refine VCode.loop (fun m st => ∃ a : Nat, a ≤ g.names.length ∧ m = g.names.length - a ∧ st = ⟨[(9, .val (.int .i64 (a : Int))), (7, .sl 1 ((eachOf (oneG g) [] soL).map encB)), (8, .sl 1 ((eachOf (oneG g) [] soR).map encB)), (3, .val (.int .i64 (g.names.length : Int))), (5, .ptr 0 0)], [(0, gO (wideG g))], 1⟩) g.names.length ?_ ?_
        · (refine Less.mk (l := [0]) hcx ?ss ?hh rfl (by decide) rfl ⟨0, by omega, by omega, rfl⟩; (case ss => repeat (first | exact SubS.nil | refine SubS.cons rfl rfl ?_ | refine SubS.cons (congrArg (fun z => some (V.val (Value.int IntKind.i64 z))) (by omega)) rfl ?_ | refine SubS.cons (congrArg (fun z => some (V.val (Value.bool z))) (by assumption)) rfl ?_)); (case hh => repeat (first | exact SubH.nil | refine SubH.cons rfl rfl rfl ?_)))
        rintro m st ⟨a, ha, rfl, rfl⟩
        by_cases hal : a < g.names.length
        · have xL := eC_get hG1 [] soL (a := a) hal
          have xR := eC_get hG1 [] soR (a := a) hal
          rw [(one_none hG1 a).1] at xL
          rw [(one_none hG1 a).2] at xR
          (repeat (first | ((with_reducible refine VOps.same ?_); (first | (refine VOps.nil ?_; try dsimp only [VThen, VBlock]) | refine VOps.vp (by rfl) (by kernel_rfl) (by rfl) (VPure.move rfl rfl) ?_ | refine VOps.vp (by rfl) (by kernel_rfl) (by rfl) (VPure.lss rfl rfl rfl) ?_)) | refine VCode.seq ?_ | refine VCode.region rfl ?_))
          refine VCode.cond_t rfl (decide_eq_true (by omega)) ?_
          (repeat (first | ((with_reducible refine VOps.same ?_); (first | (refine VOps.nil ?_; try dsimp only [VThen, VBlock]) | refine VOps.vp (by rfl) (by kernel_rfl) (by rfl) (VPure.move rfl rfl) ?_ | refine VOps.vp (by rfl) (by kernel_rfl) (by rfl) (VPure.idx_map rfl rfl rfl (by assumption)) ?_ | refine VOps.vv (by rfl) (by kernel_rfl) (by rfl) (VLoad.el1 rfl rfl rfl (by rfl)) ?_ | refine VOps.vp (by rfl) (by kernel_rfl) (by rfl) (VPure.pick_f rfl rfl rfl) ?_)) | refine VCode.seq ?_ | refine VCode.region rfl ?_ | refine VCode.block ?_ | refine VCode.skip ?_))
          refine VCode.cond_f rfl rfl ?_
          (repeat (first | ((with_reducible refine VOps.same ?_); (first | (refine VOps.nil ?_; try dsimp only [VThen, VBlock]) | refine VOps.vp (by rfl) (by kernel_rfl) (by rfl) (VPure.move rfl rfl) ?_ | refine VOps.vp (by rfl) (by kernel_rfl) (by rfl) (VPure.assign rfl rfl) ?_ | refine VOps.vp (by rfl) (by kernel_rfl) (by rfl) (VPure.addK rfl rfl rfl (by omega)) ?_)) | refine VCode.region rfl ?_ | refine VCode.skip ?_))
          (refine Less.mk (l := [0]) hcx ?ss ?hh rfl (by decide) rfl ⟨_, ?_, a + 1, by omega, rfl, rfl⟩; (case ss => repeat (first | exact SubS.nil | refine SubS.cons rfl rfl ?_ | refine SubS.cons (congrArg (fun z => some (V.val (Value.int IntKind.i64 z))) (by omega)) rfl ?_ | refine SubS.cons (congrArg (fun z => some (V.val (Value.bool z))) (by assumption)) rfl ?_)); (case hh => repeat (first | exact SubH.nil | refine SubH.cons rfl rfl rfl ?_)))
          omega
        · (repeat (first | ((with_reducible refine VOps.same ?_); (first | (refine VOps.nil ?_; try dsimp only [VThen, VBlock]) | refine VOps.vp (by rfl) (by kernel_rfl) (by rfl) (VPure.move rfl rfl) ?_ | refine VOps.vp (by rfl) (by kernel_rfl) (by rfl) (VPure.lss rfl rfl rfl) ?_)) | refine VCode.seq ?_ | refine VCode.region rfl ?_))
          refine VCode.cond_f rfl (decide_eq_false (by omega)) ?_
          (repeat (first | refine VCode.exit ?_))
          (refine Less.mk (l := [0]) hcx ?ss ?hh rfl (by decide) rfl rfl; (case ss => repeat (first | exact SubS.nil | refine SubS.cons rfl rfl ?_ | refine SubS.cons (congrArg (fun z => some (V.val (Value.int IntKind.i64 z))) (by omega)) rfl ?_ | refine SubS.cons (congrArg (fun z => some (V.val (Value.bool z))) (by assumption)) rfl ?_)); (case hh => repeat (first | exact SubH.nil | refine SubH.cons rfl rfl rfl ?_)))
      · (repeat (first | refine VCode.skip ?_))
        (refine Less.mk (l := [4]) hcx ?ss ?hh rfl (by decide) rfl rfl; (case ss => repeat (first | exact SubS.nil | refine SubS.cons rfl rfl ?_ | refine SubS.cons (congrArg (fun z => some (V.val (Value.int IntKind.i64 z))) (by omega)) rfl ?_ | refine SubS.cons (congrArg (fun z => some (V.val (Value.bool z))) (by assumption)) rfl ?_)); (case hh => repeat (first | exact SubH.nil | refine SubH.cons rfl rfl rfl ?_)))
    (repeat (first | ((with_reducible refine VOps.same ?_); (first | refine VOps.vv (by rfl) (by kernel_rfl) (by rfl) (VLoad.boxA rfl rfl rfl (by rfl) (Nat.le_of_ble_eq_true (by rfl)) (by decide)) ?_)) | refine VCode.seq ?_ | refine VCode.region rfl ?_))
    refine VOps.pure rfl Try.func26 rfl (by kernel_rfl) rfl rfl rfl rfl rfl rfl rfl (rgood_v (wideG g) hs2) ?_
    (repeat (first | ((with_reducible refine VOps.same ?_); (first | (refine VOps.nil ?_; try dsimp only [VThen, VBlock]) | refine VOps.vp (by rfl) (by kernel_rfl) (by rfl) (VPure.not rfl rfl) ?_))))
    refine VCode.cond rfl (fun hB => ?_) (fun hB => ?_)
    · skip
      (repeat (first | refine VCode.seq ?_ | refine VCode.region rfl ?_))
      refine VOps.pure rfl Try.func29 rfl (by kernel_rfl) rfl rfl rfl rfl rfl rfl rfl (ewakes_v) ?_
      (repeat (first | ((with_reducible refine VOps.same ?_); (first | (refine VOps.nil ?_; try dsimp only [VThen, VBlock]) | refine VOps.vp (by rfl) (by kernel_rfl) (by rfl) (VPure.assign rfl rfl) ?_))))
      refine VCode.retD rfl rfl (.tmp rfl .nil) ?_
      rfl
    have hG2 : GoodG (wideG g) := by simpa using hB
    have l1 := eachOf_len hG2 [] soB
    have l2 := onOf_len hG2 []
    (repeat (first | refine VCode.seq ?_ | refine VCode.skip ?_))
    refine VCode.thenTo ⟨[(10, .sl 1 ((eachOf (wideG g) [] soB).map encB)), (11, .sl 1 ((onOf (wideG g) []).map encRow)), (3, .val (.int .i64 (g.names.length : Int))), (5, .ptr 0 0)], [(0, gO (wideG g))], 1⟩ ?_ ?_
    · refine VCode.drawAny [] (by kernel_rfl) rfl ?_
      refine VAny.loadI (i := 0) rfl rfl (by kernel_rfl) rfl (VLoad.boxA rfl rfl rfl (by rfl) (Nat.le_of_ble_eq_true (by rfl)) (by decide)) ?_
      refine VAny.loadI (i := 2) rfl rfl (by kernel_rfl) rfl (VLoad.boxA rfl rfl rfl (by rfl) (Nat.le_of_ble_eq_true (by rfl)) (by decide)) ?_
      refine VAny.movesI (is := [1]) (by kernel_rfl) (by simp) rfl (all1 ?_)
      · refine VMv.oo rfl rfl rfl rfl (VOp.gives rfl Try.func33 rfl rfl rfl rfl rfl rfl ((nil2 (both_v (wideG g) [] hs2 (by decide)))) rfl) ?_
        refine VAny.movesI (is := [3]) (by kernel_rfl) (by simp) rfl (all1 ?_)
        · refine VMv.oo rfl rfl rfl rfl (VOp.gives rfl Try.func14 rfl rfl rfl rfl rfl rfl ((nil2 (on_v (wideG g) [] hs2 (by decide)))) rfl) ?_
          refine VAny.pureI (i := 4) rfl rfl (by kernel_rfl) rfl (VPure.assign rfl rfl) ?_
          refine VAny.pureI (i := 5) rfl rfl (by kernel_rfl) rfl (VPure.assign rfl rfl) ?_
          refine VAny.done ?_
          (refine Less.mk (l := [0]) hcx ?ss ?hh rfl (by decide) rfl rfl; (case ss => repeat (first | exact SubS.nil | refine SubS.cons rfl rfl ?_ | refine SubS.cons (congrArg (fun z => some (V.val (Value.int IntKind.i64 z))) (by omega)) rfl ?_ | refine SubS.cons (congrArg (fun z => some (V.val (Value.bool z))) (by assumption)) rfl ?_)); (case hh => repeat (first | exact SubH.nil | refine SubH.cons rfl rfl rfl ?_)))
    (repeat (first | ((with_reducible refine VOps.same ?_); (first | refine VOps.vp (by rfl) (by kernel_rfl) (by rfl) (VPure.move rfl rfl) ?_ | refine VOps.vp (by rfl) (by kernel_rfl) (by rfl) (VPure.len_map TI.und' rfl rfl) ?_ | refine VOps.vp (by rfl) (by kernel_rfl) (by rfl) (VPure.nei rfl rfl rfl) ?_)) | refine VCode.seq ?_ | refine VCode.region rfl ?_))
    refine VOps.says (d := 128) (v := .val (.bool false)) rfl (by rw [l1]; simp) ?_
    (repeat (first | ((with_reducible refine VOps.same ?_); (first | (refine VOps.nil ?_; try dsimp only [VThen, VBlock]) | refine VOps.vp (by rfl) (by kernel_rfl) (by rfl) (VPure.move rfl rfl) ?_ | refine VOps.vp (by rfl) (by kernel_rfl) (by rfl) (VPure.len_map TI.und' rfl rfl) ?_ | refine VOps.vp (by rfl) (by kernel_rfl) (by rfl) (VPure.nei rfl rfl rfl) ?_ | refine VOps.vp (by rfl) (by kernel_rfl) (by rfl) (VPure.pick_f rfl rfl rfl) ?_))))
    refine VCode.cond_f rfl (by rw [l2]; simp) ?_
    (repeat (first | ((with_reducible refine VOps.same ?_); (first | (refine VOps.nil ?_; try dsimp only [VThen, VBlock]) | refine VOps.vp (by rfl) (by kernel_rfl) (by rfl) (VPure.assign rfl rfl) ?_)) | refine VCode.seq ?_ | refine VCode.region rfl ?_ | refine VCode.block ?_ | refine VCode.skip ?_))
    refine VCode.loop (fun m st => ∃ a : Nat, a ≤ g.names.length ∧ m = g.names.length - a ∧ st = ⟨[(12, .val (.int .i64 (a : Int))), (10, .sl 1 ((eachOf (wideG g) [] soB).map encB)), (11, .sl 1 ((onOf (wideG g) []).map encRow)), (3, .val (.int .i64 (g.names.length : Int)))], [(0, gO (wideG g))], 1⟩) g.names.length ?_ ?_
    · (refine Less.mk (l := [0]) hcx ?ss ?hh rfl (by decide) rfl ⟨0, by omega, by omega, rfl⟩; (case ss => repeat (first | exact SubS.nil | refine SubS.cons rfl rfl ?_ | refine SubS.cons (congrArg (fun z => some (V.val (Value.int IntKind.i64 z))) (by omega)) rfl ?_ | refine SubS.cons (congrArg (fun z => some (V.val (Value.bool z))) (by assumption)) rfl ?_)); (case hh => repeat (first | exact SubH.nil | refine SubH.cons rfl rfl rfl ?_)))
    rintro m st ⟨a, ha, rfl, rfl⟩
    by_cases hal : a < g.names.length
    · have xB := eC_get hG2 [] soB (a := a) hal
      have xo := onOf_get hG2 [] (a := a) hal
      have xc := cell_get hG2 [] (a := a) (b := a) hal hal
      have hrow : (rowOf (wideG g) [] a).length = g.names.length := (rowOf_is (wideG g) [] a).1
      rw [wide_is htp hG2 hal] at xB
      (repeat (first | ((with_reducible refine VOps.same ?_); (first | (refine VOps.nil ?_; try dsimp only [VThen, VBlock]) | refine VOps.vp (by rfl) (by kernel_rfl) (by rfl) (VPure.move rfl rfl) ?_ | refine VOps.vp (by rfl) (by kernel_rfl) (by rfl) (VPure.lss rfl rfl rfl) ?_)) | refine VCode.seq ?_ | refine VCode.region rfl ?_))
      refine VCode.cond_t rfl (decide_eq_true (by omega)) ?_
      (repeat (first | ((with_reducible refine VOps.same ?_); (first | refine VOps.vp (by rfl) (by kernel_rfl) (by rfl) (VPure.move rfl rfl) ?_ | refine VOps.vp (by rfl) (by kernel_rfl) (by rfl) (VPure.len_map TI.und' rfl rfl) ?_ | refine VOps.vp (by rfl) (by kernel_rfl) (by rfl) (VPure.idx_map rfl rfl rfl (by assumption)) ?_ | refine VOps.vv (by rfl) (by kernel_rfl) (by rfl) (VLoad.el1 rfl rfl rfl (by rfl)) ?_ | refine VOps.vp (by rfl) (by kernel_rfl) (by rfl) (VPure.nei rfl rfl rfl) ?_)) | refine VCode.seq ?_ | refine VCode.draw [] rfl ?_ | refine VCode.block ?_ | refine VCode.skip ?_))
      refine VOps.says (d := 146) (v := .val (.bool false)) rfl (by rw [hrow]; simp) ?_
      (repeat (first | ((with_reducible refine VOps.same ?_); (first | (refine VOps.nil ?_; try dsimp only [VThen, VBlock]) | refine VOps.vp (by rfl) (by kernel_rfl) (by rfl) (VPure.move rfl rfl) ?_ | refine VOps.vp (by rfl) (by kernel_rfl) (by rfl) (VPure.idx_map rfl rfl rfl (by assumption)) ?_ | refine VOps.vv (by rfl) (by kernel_rfl) (by rfl) (VLoad.el1 rfl rfl rfl (by rfl)) ?_ | refine VOps.vp (by rfl) (by kernel_rfl) (by rfl) (VPure.neb TI.und' rfl rfl rfl) ?_ | refine VOps.vp (by rfl) (by kernel_rfl) (by rfl) (VPure.pick_f rfl rfl rfl) ?_))))
      refine VCode.cond_f rfl (by simp) ?_
      (repeat (first | ((with_reducible refine VOps.same ?_); (first | (refine VOps.nil ?_; try dsimp only [VThen, VBlock]) | refine VOps.vp (by rfl) (by kernel_rfl) (by rfl) (VPure.move rfl rfl) ?_ | refine VOps.vp (by rfl) (by kernel_rfl) (by rfl) (VPure.assign rfl rfl) ?_ | refine VOps.vp (by rfl) (by kernel_rfl) (by rfl) (VPure.addK rfl rfl rfl (by omega)) ?_)) | refine VCode.region rfl ?_ | refine VCode.skip ?_))
      (refine Less.mk (l := [0]) hcx ?ss ?hh rfl (by decide) rfl ⟨_, ?_, a + 1, by omega, rfl, rfl⟩; (case ss => repeat (first | exact SubS.nil | refine SubS.cons rfl rfl ?_ | refine SubS.cons (congrArg (fun z => some (V.val (Value.int IntKind.i64 z))) (by omega)) rfl ?_ | refine SubS.cons (congrArg (fun z => some (V.val (Value.bool z))) (by assumption)) rfl ?_)); (case hh => repeat (first | exact SubH.nil | refine SubH.cons rfl rfl rfl ?_)))
      omega
    · (repeat (first | ((with_reducible refine VOps.same ?_); (first | (refine VOps.nil ?_; try dsimp only [VThen, VBlock]) | refine VOps.vp (by rfl) (by kernel_rfl) (by rfl) (VPure.move rfl rfl) ?_ | refine VOps.vp (by rfl) (by kernel_rfl) (by rfl) (VPure.lss rfl rfl rfl) ?_)) | refine VCode.seq ?_ | refine VCode.region rfl ?_))
      refine VCode.cond_f rfl (decide_eq_false (by omega)) ?_
      (repeat (first | refine VCode.seq ?_ | refine VCode.region rfl ?_ | refine VCode.exit ?_))
      refine VOps.pure rfl Try.func29 rfl (by kernel_rfl) rfl rfl rfl rfl rfl rfl rfl (ewakes_v) ?_
      (repeat (first | ((with_reducible refine VOps.same ?_); (first | (refine VOps.nil ?_; try dsimp only [VThen, VBlock]) | refine VOps.vp (by rfl) (by kernel_rfl) (by rfl) (VPure.assign rfl rfl) ?_))))
      refine VCode.retD rfl rfl (.tmp rfl .nil) ?_
      rfl
theorem eones_law (g : Gr) (gg : goodGr g) : VCalls Try.prog 9 [.agg ((encG g).map D.toV)] [] 0 (Gives (.val (.bool true))) := eones_v g
end Go.Proofs.Ytfjfbapiheehaaa.V
end
