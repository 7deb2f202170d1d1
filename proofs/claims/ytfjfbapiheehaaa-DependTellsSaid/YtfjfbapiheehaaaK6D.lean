/- What D needs of this session's own texts, part 6: put together by wip/dce.py. -/
import Derived.Test.YtfjfbapiheehaaaK5D
import Derived.SizedLaws
import Derived.Laws.StructEq
import Derived.Laws.MakeOwn
import Derived.Test.YtfjfbapiheehaaaProg
import Derived.ProofKit
import Derived.Below
import Derived.Deep.Draws
import Derived.Deep.AppendLies
import Derived.Maps.AppendAt
import Derived.OwnWalk
import Derived.Laws.BytesArg
import Derived.Laws.OwnMore
import Derived.Deep.OwnRows
import Derived.Tactics
import Derived.Lib.ConvBytes
import Derived.Laws.Slices
import Derived.WalkKit
import Derived.KernelRfl
import Derived.RowKit3
import Derived.Deep.LoopGhost
import Derived.Deep.QuietTactic
import Derived.BigQuiet
import Derived.WideLaws
import Derived.Deep.DeepCutAuto
import Derived.Deep.CutBlock
import Derived.Deep.RegionHeld3
import Derived.Laws.Rows
import Derived.Lib.AppendStr
import Derived.ArgAppend
import Derived.Laws.IdiomCopy
import Derived.OrdersHeld
import Derived.Laws.BitsLemmas
import Derived.RowKit
section
set_option linter.unusedVariables false
set_option linter.unusedSimpArgs false
namespace Go.Proofs.Ytfjfbapiheehaaa.V
open Go Go.RowKit Go.Proofs.YtfjfbapiheehaaaW.PrintWords
inductive VOut where
 | ret (v : V)
 | panic (c : List PanicEntry)
def outRep (R : Addr → Value → Prop) (gv : Nat → Option Value) (x : Nat) : VOut → Ending → Prop
 | .ret v, .returned m => VRep R gv x v m
 | .panic c, .panicked c' => c' = c
 | _, _ => False
def cxOf (z : Nat → Prop) (g : Nat → Value) (h : Heap) (x : Nat) (w : World) : Cx := ⟨w, Own h g, x, gvOf h g, z, []⟩
def VCalls (P : Program) (f : FuncId) (args : List V) (h : Heap) (x : Nat) (Q : VOut → Heap → Nat → Prop) : Prop :=
 ∀ (z : Nat → Prop) (g : Nat → Value) (w : World) (ms : Array Value), HRep (cxOf z g h x w) g h x w → ms.size = args.length → (∀ (i : Nat) (v : V) (m : Value), args[i]? = some v → ms[i]? = some m → VRep (Rd z h g w) (gvOf h g) x v m) →
  Calls P f ms w fun e w' => ∃ g' h' x' out, HRep (cxOf z g h x w) g' h' x' w' ∧ outRep (Rd z h' g' w') (gvOf h' g') x' out e ∧ Q out h' x'
theorem VCalls.mono {P : Program} {f : FuncId} {args : List V} {h : Heap} {x : Nat} {Q Q' : VOut → Heap → Nat → Prop} (k : VCalls P f args h x Q) (hq : ∀ o h' x', Q o h' x' → Q' o h' x') : VCalls P f args h x Q' := fun z g w ms h1 h2 h3 =>
 (k z g w ms h1 h2 h3).mono fun e w' ⟨g', h', x', out, a, b, c⟩ => ⟨g', h', x', out, a, b, hq _ _ _ c⟩
inductive RVals (P : Program) (st : St) : List ResultVar → List V → Prop
 | nil : RVals P st [] []
 | tmp {t : Tmp} {v : V} {rs : List ResultVar} {vs : List V} : lk st.s t = some v → RVals P st rs vs → RVals P st (.tmp t :: rs) (v :: vs)
 | cell1 {p : Tmp} {ty : TypeId} {id off : Nat} {t' : TypeId} {cs : List V} {c : V} {d : TypeDesc} {s b : Nat} {z : Value} {rs : List ResultVar} {vs : List V} : lk st.s p = some (.ptr id off) → lk st.h id = some (.cells t' cs) → cs[off]? = some c → [ht : TI P ty d s b z] → aggT d = false → RVals P st rs vs → RVals P st (.cell p ty :: rs) (c :: vs)
 | cellA {p : Tmp} {ty : TypeId} {id off : Nat} {t' : TypeId} {cs : List V} {d : TypeDesc} {s b : Nat} {z : Value} {rs : List ResultVar} {vs : List V} : lk st.s p = some (.ptr id off) → lk st.h id = some (.cells t' cs) → [ht : TI P ty d s b z] → aggT d = true → off + s ≤ cs.length → RVals P st rs vs → RVals P st (.cell p ty :: rs) (.agg ((cs.drop off).take s) :: vs)
def oneV : List V → V
 | [v] => v
 | vs => .tup vs
theorem run_loadVar_at {P : Program} {t : TypeId} {ad : Addr} {w : World} {v : Value} (h : (Instr.loadAt t (.pointer (some ad))).run P w = .ok v w) : (loadVar t ad).run P w = .ok v w := by
 unfold Instr.loadAt at h
 simpa [Instr.sureAddr] using h
theorem rvals_rep {P : Program} {n : Nat} {cx : Cx} {g : Nat → Value} {st : St} {a : Act} {w : World} (r : Rep n cx g st a w) {rs : List ResultVar} {vs : List V} (h : RVals P st rs vs) (F : ResultVar → Sem Value) (F1 : ∀ t, F (.tmp t) = pure (a.tmps.getD t undef)) (F2 : ∀ p t, F (.cell p t) = (asAddr (a.tmps.getD p undef) >>= fun ad => loadVar t ad)) :
  ∃ ms : List Value, (rs.mapM F).run P w = .ok ms w ∧ ms.length = vs.length ∧ ∀ (i : Nat) (v : V) (m : Value), vs[i]? = some v → ms[i]? = some m → VRep (Rd cx.z st.h g w) (gvOf st.h g) st.x v m := by
 have step : ∀ {q : ResultVar} {v : V} {m : Value} {rs : List ResultVar} {vs : List V} {ms : List Value}, (F q).run P w = .ok m w → VRep (Rd cx.z st.h g w) (gvOf st.h g) st.x v m →
   (rs.mapM F).run P w = .ok ms w → ms.length = vs.length → (∀ (i : Nat) (v : V) (m : Value), vs[i]? = some v → ms[i]? = some m → VRep (Rd cx.z st.h g w) (gvOf st.h g) st.x v m) →
   ∃ ms : List Value, ((q :: rs).mapM F).run P w = .ok ms w ∧ ms.length = (v :: vs).length ∧ ∀ (i : Nat) (u : V) (m : Value), (v :: vs)[i]? = some u → ms[i]? = some m → VRep (Rd cx.z st.h g w) (gvOf st.h g) st.x u m := by
  intro q v m rs vs ms h1 hv h2 h3 h4
  refine ⟨m :: ms, ?_, by simp [h3], fun i u m' hu hm => ?_⟩
  ·rw [List.mapM_cons, Sem.run_bind]
   rw [h1]
   simp only [Result.andThen, Sem.run_bind, h2, Sem.run_pure]
  ·cases i with
   | zero => simp at hu hm; subst hu; subst hm; exact hv
   | succ i => exact h4 i u m' (by simpa using hu) (by simpa using hm)
 induction h with
 | nil => exact ⟨[], by simp, rfl, fun i v m h => by simp at h⟩
 | @tmp t v rs vs h1 h2 ih =>
  obtain ⟨ms, e1, e2, e3⟩ := ih
  exact step (q := .tmp t) (by rw [F1]; simp) (r.s t v h1) e1 e2 e3
 | @cell1 p ty id off t' cs c d s b z rs vs h1 h2 h3 ht h4 h5 ih =>
  obtain ⟨ms, e1, e2, e3⟩ := ih
  obtain ⟨bb, cms, hgv, hb, hsz, h1c, hrep⟩ := r.box h2
  have hp := r.s p _ h1
  generalize he : a.tmps.getD p undef = mm at hp
  cases hp with
  | ptr _ _ _ k1 k2 k3 =>
   have := k3 _ hgv
   subst this
   have hi : off < cms.size := by rw [hsz]; exact (List.getElem?_eq_some_iff.1 h3).1
   have hcell : w.cell? ⟨bb, off, none⟩ = some cms[off] := by rw [cell_of_row w bb off cms t' (0, 0) hb]; exact Array.getElem?_eq_getElem hi
   refine step (q := .cell p ty) ?_ (hrep off c _ h3 (Array.getElem?_eq_getElem hi)) e1 e2 e3
   rw [F2]
   simp only [he]
   simp only [asAddr, Sem.run_bind, Sem.run_pure, Result.andThen]
   exact run_loadVar_at (run_load1 ht.und h4 hcell)
 | @cellA p ty id off t' cs d s b z rs vs h1 h2 ht h4 h6 h5 ih =>
  obtain ⟨ms, e1, e2, e3⟩ := ih
  obtain ⟨bb, cms, hgv, hb, hsz, h1c, hrep⟩ := r.box h2
  have hp := r.s p _ h1
  generalize he : a.tmps.getD p undef = mm at hp
  cases hp with
  | ptr _ _ _ k1 k2 k3 =>
   have := k3 _ hgv
   subst this
   have hrun := run_loadA ht h4 (ad := ⟨bb, off, none⟩) (w := w) (cs := (cms.toList.drop off).take s) (by simp; omega) (fun j v hj => by
    simp only [List.getElem?_take, List.getElem?_drop] at hj
    split at hj
    ·have : (⟨bb, off, none⟩ : Addr).add j = ⟨bb, off + j, none⟩ := by unfold Addr.add; split <;> simp_all
     rw [this, cell_of_row w bb (off + j) cms t' (0, 0) hb]
     simpa using hj
    ·cases hj)
   refine step (q := .cell p ty) ?_ (.agg _ ((cms.toList.drop off).take s).toArray (by simp; omega) (fun i c u hc hu => ?_)) e1 e2 e3
   ·rw [F2]
    simp only [he]
    simp only [asAddr, Sem.run_bind, Sem.run_pure, Result.andThen]
    exact run_loadVar_at hrun
   ·simp only [List.getElem?_toArray, List.getElem?_take, List.getElem?_drop] at hc hu
    split at hc
    ·rename_i hlt
     rw [if_pos hlt] at hu
     exact hrep _ c u hc (by simpa using hu)
    ·cases hc
theorem results_rep {P : Program} {n : Nat} {cx : Cx} {g : Nat → Value} {st : St} {a : Act} {w : World} (r : Rep n cx g st a w) {fn : Func} {vs : List V} (h : RVals P st fn.results.toList vs) :
  ∃ m, (results fn a.tmps).run P w = .ok m w ∧ VRep (Rd cx.z st.h g w) (gvOf st.h g) st.x (oneV vs) m := by
 obtain ⟨ms, h1, h2, h3⟩ := rvals_rep r h (fun | .tmp t => pure (a.tmps.getD t undef) | .cell p t => do loadVar t (← asAddr (a.tmps.getD p undef))) (fun _ => rfl) (fun _ _ => rfl)
 refine ⟨if hs : ms.toArray.size = 1 then ms.toArray[0] else .tuple ms.toArray, ?_, ?_⟩
 ·unfold results
  rw [Array.mapM_eq_mapM_toList]
  simp only [Sem.run_bind, bind_map_left, Functor.map_map, map_eq_pure_bind, bind_assoc, pure_bind]
  refine (congrArg (fun q => Result.andThen q _) h1).trans ?_
  simp [Result.andThen]
 ·by_cases hs : ms.length = 1
  ·obtain ⟨m, rfl⟩ := List.length_eq_one_iff.1 hs
   obtain ⟨v, rfl⟩ := List.length_eq_one_iff.1 (by omega : vs.length = 1)
   simpa [oneV] using h3 0 v m rfl rfl
  ·have : ¬ ms.toArray.size = 1 := by simpa using hs
   rw [dif_neg this]
   have ho : oneV vs = .tup vs := by
    cases vs with
    | nil => rfl
    | cons v vs => cases vs with
     | nil => exact absurd (by simpa using h2) hs
     | cons _ _ => rfl
   rw [ho]
   exact .tup _ _ (by simpa using h2) (fun i c m hc hm => h3 i c m hc (by simpa using hm))
def retPost (P : Program) (fn : Func) (Q : VOut → Heap → Nat → Prop) : VExit → St → Prop
 | .normal, st => ∃ vs, RVals P st fn.results.toList vs ∧ Q (.ret (oneV vs)) st.h st.x
 | .ret, st => ∃ vs, RVals P st fn.results.toList vs ∧ Q (.ret (oneV vs)) st.h st.x
 | .panic c, st => Q (.panic c) st.h st.x
 | .exit _, _ => False
def argS (k : Nat) : List V → List (Nat × V)
 | [] => []
 | v :: vs => (k, v) :: argS (k + 1) vs
theorem argS_lk (vs : List V) : ∀ (k d : Nat) (v : V), lk (argS k vs) d = some v → k ≤ d ∧ vs[d - k]? = some v := by
 induction vs with
 | nil => intro k d v h; cases h
 | cons u vs ih =>
  intro k d v h
  simp only [argS, lk_cons] at h
  by_cases hk : k = d
  ·subst hk; rw [if_pos rfl] at h; obtain rfl := Option.some.inj h; simp
  ·rw [if_neg hk] at h
   obtain ⟨h1, h2⟩ := ih _ _ _ h
   refine ⟨by omega, ?_⟩
   rw [show d - k = (d - (k + 1)) + 1 from by omega]; exact h2
theorem VCalls.enter {P : Program} {f : FuncId} {fn : Func} {c : Code} {n : Nat} {args : List V} {h : Heap} {x : Nat} {Q : VOut → Heap → Nat → Prop} (hf : P.funcs[f]? = some fn) (hb : fn.body = some c) (hn : fn.ntmps = n) (ha : args.length ≤ n)
  (H : ∀ cx : Cx, cx.x = x → VCode P n cx c (retPost P fn Q) ⟨argS 0 args, h, x⟩) : VCalls P f args h x Q := fun z g w ms h1 h2 h3 => by
 refine calls_of_wp hf hb ?_
 have rep : Rep n (cxOf z g h x w) g ⟨argS 0 args, h, x⟩ { tmps := ms ++ Array.replicate (fn.ntmps - ms.size) undef, defers := [] } w := by
  refine ⟨h1, by simp [hn, h2]; omega, rfl, fun d v hd => ?_⟩
  obtain ⟨_, hd'⟩ := argS_lk _ _ _ _ hd
  rw [Nat.sub_zero] at hd'
  have hlt : d < ms.size := by rw [h2]; exact (List.getElem?_eq_some_iff.1 hd').1
  have : (ms ++ Array.replicate (fn.ntmps - ms.size) undef).getD d undef = ms[d] := by
   rw [Array.getD_eq_getD_getElem?, Array.getElem?_append_left hlt, Array.getElem?_eq_getElem hlt]; rfl
  rw [this]
  exact h3 d v _ hd' (Array.getElem?_eq_getElem hlt)
 refine Go.wp_mono (H _ rfl g _ w rep) ?_
 intro e a' w' hq
 cases e with
 | normal =>
  obtain ⟨g', st', r', vs, hv, hQ⟩ := hq
  obtain ⟨m, e1, e2⟩ := results_rep r' hv
  exact ⟨r'.defers, m, e1, g', st'.h, st'.x, .ret (oneV vs), r'.h, e2, hQ⟩
 | ret =>
  obtain ⟨g', st', r', vs, hv, hQ⟩ := hq
  obtain ⟨m, e1, e2⟩ := results_rep r' hv
  exact ⟨r'.defers, m, e1, g', st'.h, st'.x, .ret (oneV vs), r'.h, e2, hQ⟩
 | panic c =>
  obtain ⟨hd, g', st', hh, hQ⟩ := hq
  exact ⟨hd, g', st'.h, st'.x, .panic c, hh, rfl, hQ⟩
 | exit id => obtain ⟨g', st', r', hQ⟩ := hq; exact hQ.elim
 | goto l => exact hq.elim
 | outgrown => exact hq.elim
end Go.Proofs.Ytfjfbapiheehaaa.V
namespace Go.Proofs.Ytfjfbapiheehaaa.V
open Go Go.RowKit Go.Proofs.YtfjfbapiheehaaaW.PrintWords
def rn (l : List Nat) (x : Nat) (i : Nat) : Nat := match l[i]? with
 | some j => j
 | none => x + (i - l.length)
def renH (ρ : Nat → Nat) (h : Heap) : Heap := h.map fun p => (ρ p.1, p.2.ren ρ)
def deadH (l : List Nat) : Heap := l.map fun i => (i, .dead)
theorem rn_lt {l : List Nat} {x i : Nat} (hi : i < l.length) : rn l x i = nm l i := by
 unfold rn nm; rw [List.getElem?_eq_getElem hi]; rfl
theorem rn_ge {l : List Nat} {x i : Nat} (hi : l.length ≤ i) : rn l x i = x + (i - l.length) := by
 unfold rn; rw [List.getElem?_eq_none hi]
theorem rn_inj {l : List Nat} {x : Nat} (hn : l.Nodup) (hl : ∀ i ∈ l, i < x) {i j : Nat} (h : rn l x i = rn l x j) : i = j := by
 have hlt : ∀ i, i < l.length → rn l x i < x := fun i hi => by
  rw [rn_lt hi]; unfold nm; rw [List.getElem?_eq_getElem hi]; exact hl _ (List.getElem_mem hi)
 rcases Nat.lt_or_ge i l.length with hi | hi <;> rcases Nat.lt_or_ge j l.length with hj | hj
 ·rw [rn_lt hi, rn_lt hj] at h; exact nm_inj hn hi hj h
 ·have := hlt i hi; rw [rn_ge hj] at h; omega
 ·have := hlt j hj; rw [rn_ge hi] at h; omega
 ·rw [rn_ge hi, rn_ge hj] at h; omega
theorem lk_append {α : Type} (s t : List (Nat × α)) (d : Nat) : lk (s ++ t) d = match lk s d with | some v => some v | none => lk t d := by
 induction s with
 | nil => rfl
 | cons p s ih =>
  obtain ⟨e, u⟩ := p
  rw [List.cons_append, lk_cons, lk_cons]
  by_cases h : e = d
  ·rw [if_pos h, if_pos h]
  ·rw [if_neg h, if_neg h, ih]
theorem lk_ren {ρ : Nat → Nat} (hρ : ∀ i j, ρ i = ρ j → i = j) (h : Heap) (i : Nat) : lk (renH ρ h) (ρ i) = (lk h i).map (O.ren ρ) := by
 induction h with
 | nil => rfl
 | cons p h ih =>
  obtain ⟨e, u⟩ := p
  simp only [renH, List.map_cons, lk_cons] at ih ⊢
  by_cases he : e = i
  ·subst he; simp
  ·rw [if_neg he, if_neg (fun q => he (hρ _ _ q)), ih]
theorem lk_ren_none {ρ : Nat → Nat} (h : Heap) (id : Nat) (hn : ∀ i, ρ i ≠ id) : lk (renH ρ h) id = none := by
 induction h with
 | nil => rfl
 | cons p h ih =>
  obtain ⟨e, u⟩ := p
  simp only [renH, List.map_cons, lk_cons] at ih ⊢
  rw [if_neg (hn e), ih]
theorem lk_dead_mem {l : List Nat} {id : Nat} (h : id ∈ l) : lk (deadH l) id = some .dead := by
 induction l with
 | nil => cases h
 | cons i l ih =>
  simp only [deadH, List.map_cons, lk_cons] at ih ⊢
  by_cases hi : i = id
  ·rw [if_pos hi]
  ·rw [if_neg hi]
   exact ih ((List.mem_cons.1 h).resolve_left (fun e => hi e.symm))
theorem lk_dead_not {l : List Nat} {id : Nat} (h : id ∉ l) : lk (deadH l) id = none := by
 induction l with
 | nil => rfl
 | cons i l ih =>
  simp only [deadH, List.map_cons, lk_cons] at ih ⊢
  rw [if_neg (fun e => h (by rw [e]; exact List.mem_cons_self)), ih (fun hh => h (List.mem_cons_of_mem _ hh))]
theorem VRep.rename {R R' : Addr → Value → Prop} {gv gv' : Nat → Option Value} {x x' : Nat} {ρ : Nat → Nat} (hR : ∀ a v, R a v → R' a v) (hg : ∀ id v, id < x → gv' (ρ id) = some v → gv id = some v) (hx : ∀ id, id < x → ρ id < x') {v : V} {m : Value} (h : VRep R gv x v m) : VRep R' gv' x' (v.ren ρ) m := by
 induction h with
 | val v h => exact .val v h
 | sl sz xs m h => exact .sl sz xs m (h.mono hR)
 | agg cs ms h1 h2 ih =>
  refine .agg _ ms (by rw [renL_length]; exact h1) (fun i c m hc hm => ?_)
  rw [renL_get] at hc
  obtain ⟨c', h3, rfl⟩ := Option.map_eq_some_iff.1 hc
  exact ih i c' m h3 hm
 | tup cs ms h1 h2 ih =>
  refine .tup _ ms (by rw [renL_length]; exact h1) (fun i c m hc hm => ?_)
  rw [renL_get] at hc
  obtain ⟨c', h3, rfl⟩ := Option.map_eq_some_iff.1 hc
  exact ih i c' m h3 hm
 | fn f cs ms h1 h2 ih =>
  refine .fn _ _ ms (by rw [renL_length]; exact h1) (fun i c m hc hm => ?_)
  rw [renL_get] at hc
  obtain ⟨c', h3, rfl⟩ := Option.map_eq_some_iff.1 hc
  exact ih i c' m h3 hm
 | ptr id off m h1 h0 h2 => exact .ptr _ _ _ (hx _ h1) h0 (fun b hb => h2 b (hg _ _ h1 hb))
 | ael id pos m h1 h0 h2 => exact .ael _ _ _ (hx _ h1) h0 (fun v ad n c hb => h2 v ad n c (hg _ _ h1 hb))
 | el cs ad h => exact .el cs ad (fun j d hj => let ⟨m, hm, hd⟩ := h j d hj; ⟨m, hR _ _ hm, hd.mono hR⟩)
 | ref id m h1 h0 h2 => exact .ref _ _ (hx _ h1) h0 (fun v hv => h2 v (hg _ _ h1 hv))
 | junk m => exact .junk m
theorem ORep.rename {R R' : Addr → Value → Prop} {gv gv' : Nat → Option Value} {x x' : Nat} {ρ : Nat → Nat} (hR : ∀ a v, R a v → R' a v) (hg : ∀ id v, id < x → gv' (ρ id) = some v → gv id = some v) (hx : ∀ id, id < x → ρ id < x') {w : World} {o : O} {v : Value} (h : ORep R gv x w o v) : ORep R' gv' x' w (o.ren ρ) v := by
 cases h with
 | cells t cs b ms e1 e2 e3 e4 =>
  refine .cells t _ b ms e1 (by rw [renL_length]; exact e2) e3 (fun i c m hc hm => ?_)
  rw [renL_get] at hc
  obtain ⟨c', h3, rfl⟩ := Option.map_eq_some_iff.1 hc
  exact (e4 i c' m h3 hm).rename hR hg hx
 | arr t sz xs v ms e1 e2 e3 e4 e5 => exact .arr t sz xs v ms e1 e2 e3 e4 (fun i j d h => let ⟨m, hm, hd⟩ := e5 i j d h; ⟨m, hm, hd.mono hR⟩)
 | nest t sz rows hole v ms us e1 e2 e3 e4 e5 e6 e7 => exact ORep.nest_map ρ (.nest t sz rows hole v ms us e1 e2 e3 e4 e5 e6 e7) hR (fun _ _ h => h.rename hR hg hx) (fun _ _ => rfl)
 | map es r ms cl e1 e2 e3 e4 => exact .map es r ms cl e1 e2 (fun i e m h1 h2 => ⟨(e3 i e m h1 h2).1.mono hR, (e3 i e m h1 h2).2.mono hR⟩) e4
 | chan cap buf cl r ms s q e1 e2 e3 => exact .chan cap buf cl r ms s q e1 e2 (fun i e m h1 h2 => (e3 i e m h1 h2).mono hR)
 | iter mp n' sn' r b sn e1 e2 e3 => exact .iter (ρ mp) n' sn' r b sn e1 e2 (e3.rename hR hg hx)
structure Hand (l : List Nat) (ch : Heap) (st : St) : Prop where
 h : SubH (nm l) l.length ch st.h
 nd : l.Nodup
 lt : ∀ i ∈ l, i < st.x
theorem Hand.none (st : St) : Hand [] [] st := ⟨SubH.nil, List.nodup_nil, fun _ h => by cases h⟩
section
variable {n : Nat} {cx : Cx} {g : Nat → Value} {st : St} {a : Act} {w : World} {l : List Nat} {ch : Heap}
def apartOf (cx : Cx) (g : Nat → Value) (h : Heap) (l : List Nat) (k : Nat) : Prop := cx.z k ∨ ∃ id v, gvOf h g id = some v ∧ Blk v k ∧ id ∉ l
def gIn (g : Nat → Value) (l : List Nat) (i : Nat) : Value := g (nm l i)
theorem Hand.gv (hd : Hand l ch st) {id : Nat} {v : Value} (h : gvOf ch (gIn g l) id = some v) : id < l.length ∧ gvOf st.h g (nm l id) = some v ∧ ∃ o, lk ch id = some o ∧ o.lt l.length = true ∧ lk st.h (nm l id) = some (o.ren (nm l)) := by
 unfold gvOf at h ⊢
 cases hk : lk ch id with
 | none => rw [hk] at h; cases h
 | some o =>
  rw [hk] at h
  obtain ⟨h1, h2, h3⟩ := hd.h _ (lk_mem hk)
  simp only at h1 h2 h3 h
  refine ⟨h1, ?_, o, rfl, h2, h3⟩
  rw [h3]
  simp only [O.ren_live]
  exact h
theorem Hand.rd (hd : Hand l ch st) (a : Addr) (v : Value) (h : Rd cx.z st.h g w a v) : Rd (apartOf cx g st.h l) ch (gIn g l) w a v := by
 refine ⟨?_, ?_, h.cell⟩
 ·rintro (hz | ⟨id, u, h1, h2, _⟩)
  ·exact h.z hz
  ·exact h.own ⟨id, u, h1, h2⟩
 ·rintro ⟨id, u, h1, h2⟩
  exact h.own ⟨_, u, (hd.gv h1).2.1, h2⟩
theorem Hand.v (hd : Hand l ch st) {v : V} {m : Value} (h : VRep (Rd cx.z st.h g w) (gvOf st.h g) st.x (v.ren (nm l)) m) (hl : v.lt l.length = true) : VRep (Rd (apartOf cx g st.h l) ch (gIn g l) w) (gvOf ch (gIn g l)) l.length v m :=
 (h.unren (gv' := gvOf ch (gIn g l)) (x' := l.length) (fun id v _ h => (hd.gv h).2.1) rfl hl).mono (hd.rd) (fun _ _ _ h => h) (Nat.le_refl _)
theorem Hand.hrep (hd : Hand l ch st) (r : HRep cx g st.h st.x w) : HRep (cxOf (apartOf cx g st.h l) (gIn g l) ch l.length w) (gIn g l) ch l.length w := by
 refine ⟨rfl, rfl, rfl, Nat.le_refl _, fun _ _ _ => rfl, ?_, ?_, ?_, fun _ _ _ h => h, Nat.le_refl _, ?_⟩
 ·intro id v h
  obtain ⟨h1, h2, o, h3, h4, h5⟩ := hd.gv h
  refine ⟨h1, o, h3, ?_⟩
  obtain ⟨_, o', h6, h7⟩ := r.obj _ _ h2
  rw [h5] at h6
  obtain rfl := Option.some.inj h6
  have hrd := hd.rd (cx := cx) (g := g) (w := w)
  cases o with
  | cells t cs =>
   cases h7 with
   | cells t' cs' b ms e1 e2 e3 e4 =>
    exact .cells t cs b ms e1 (by rw [e2, renL_length]) e3 (fun i c m hc hm => hd.v (e4 i _ m (by rw [renL_get, hc]; rfl) hm) (ltL_get h4 i c hc))
  | arr t sz xs =>
   cases h7 with
   | arr t' sz' xs' v ms e1 e2 e3 e4 e5 => exact .arr t sz xs _ ms e1 e2 e3 e4 (fun i j d h => let ⟨m, hm, hd'⟩ := e5 i j d h; ⟨m, hm, hd'.mono hrd⟩)
  | nest t sz rows hole => exact ORep.nest_un (nm l) h7 hrd (fun i m hm hr => hd.v (v := .ref i) hr (hole_lt h4 hm))
  | map es =>
   cases h7 with
   | map es' r' ms cl e1 e2 e3 e4 => exact .map es _ ms cl e1 e2 (fun i e m h1 h2 => ⟨(e3 i e m h1 h2).1.mono hrd, (e3 i e m h1 h2).2.mono hrd⟩) e4
  | chan cap buf closed =>
   cases h7 with
   | chan cap' buf' cl' r' ms s q e1 e2 e3 => exact .chan cap buf closed _ ms s q e1 e2 (fun i e m h1 h2 => (e3 i e m h1 h2).mono hrd)
  | iter mp n' sn' =>
   cases h7 with
   | iter mp' n2 sn2 r' b sn e1 e2 e3 => exact .iter mp n' sn' _ b sn e1 e2 (hd.v (v := .ref mp) e3 h4)
  | dead => cases h7
 ·intro id id' v v' k h1 h2 h3 h4
  have e1 := hd.gv h1
  have e2 := hd.gv h2
  exact nm_inj hd.nd e1.1 e2.1 (r.apart _ _ _ _ _ e1.2.1 e2.2.1 h3 h4)
 ·intro id v k h1 h2
  exact ⟨(r.mine _ _ _ (hd.gv h1).2.1 h2).1, .inl ⟨id, v, h1, h2⟩⟩
 ·rintro k (hz | ⟨id, v, h1, h2, h3⟩)
  ·obtain ⟨k1, k2⟩ := r.apz k hz
   refine ⟨Nat.lt_of_lt_of_le k1 r.size, ?_⟩
   rintro ⟨id, v, h1, h2⟩
   rcases (r.mine _ _ _ (hd.gv h1).2.1 h2).2 with h | h
   ·exact k2 h
   ·omega
  ·refine ⟨(r.mine _ _ _ h1 h2).1, ?_⟩
   rintro ⟨id', v', h4, h5⟩
   have e := hd.gv h4
   have := r.apart _ _ _ _ _ h1 e.2.1 h2 h5
   subst this
   apply h3
   unfold nm
   rw [List.getElem?_eq_getElem e.1]
   exact List.getElem_mem e.1
def outH (l : List Nat) (x : Nat) (h' h : Heap) : Heap := renH (rn l x) h' ++ (deadH l ++ h)
def outG (l : List Nat) (x : Nat) (g' g : Nat → Value) (id : Nat) : Value := if x ≤ id then g' (id - x + l.length) else match l.idxOf? id with
 | some i => g' i
 | none => g id
theorem idxOf_nm {l : List Nat} (hn : l.Nodup) {i : Nat} (hi : i < l.length) : l.idxOf? (nm l i) = some i := by
 have hv : nm l i = l[i] := by unfold nm; rw [List.getElem?_eq_getElem hi]; rfl
 rw [hv]
 cases hq : l.idxOf? l[i] with
 | none => exact absurd (List.getElem_mem hi) (List.idxOf?_eq_none_iff.1 hq)
 | some j =>
  have hj := List.findIdx?_eq_some_iff_getElem.1 hq
  obtain ⟨h1, h2, _⟩ := hj
  have : l[j] = l[i] := by simpa using h2
  have hp := List.pairwise_iff_getElem.1 hn
  rcases Nat.lt_trichotomy i j with hlt | he | hlt
  ·exact absurd this.symm (hp i j hi h1 hlt)
  ·rw [he]
  ·exact absurd this (hp j i h1 hi hlt)
theorem outG_rn (hd : Hand l ch st) (g' g : Nat → Value) (i : Nat) : outG l st.x g' g (rn l st.x i) = g' i := by
 unfold outG
 rcases Nat.lt_or_ge i l.length with hi | hi
 ·rw [rn_lt hi]
  have : nm l i < st.x := by unfold nm; rw [List.getElem?_eq_getElem hi]; exact hd.lt _ (List.getElem_mem hi)
  rw [if_neg (by omega), idxOf_nm hd.nd hi]
 ·rw [rn_ge hi, if_pos (by omega)]
  congr 1; omega
theorem nm_mem {l : List Nat} {i : Nat} (hi : i < l.length) : nm l i ∈ l := by unfold nm; rw [List.getElem?_eq_getElem hi]; exact List.getElem_mem hi
theorem mem_nm {l : List Nat} {id : Nat} (h : id ∈ l) : ∃ i, i < l.length ∧ nm l i = id := by
 obtain ⟨i, hi, e⟩ := List.mem_iff_getElem.1 h
 exact ⟨i, hi, by unfold nm; rw [List.getElem?_eq_getElem hi]; exact e⟩
theorem out_cases (hd : Hand l ch st) (r : HRep cx g st.h st.x w) {g' : Nat → Value} {h' : Heap} {id : Nat} {v : Value} (h : gvOf (outH l st.x h' st.h) (outG l st.x g' g) id = some v) :
  (∃ i, id = rn l st.x i ∧ gvOf h' g' i = some v) ∨ (id ∉ l ∧ id < st.x ∧ gvOf st.h g id = some v ∧ lk (outH l st.x h' st.h) id = lk st.h id) := by
 have hinj : ∀ i j, rn l st.x i = rn l st.x j → i = j := fun i j => rn_inj hd.nd hd.lt
 by_cases hex : ∃ i, id = rn l st.x i
 ·obtain ⟨i, rfl⟩ := hex
  unfold gvOf at h
  rw [outG_rn hd] at h
  cases hk : lk h' i with
  | some o =>
   have : lk (outH l st.x h' st.h) (rn l st.x i) = some (o.ren (rn l st.x)) := by rw [outH, lk_append, lk_ren hinj, hk]; rfl
   rw [this] at h
   simp only [O.ren_live] at h
   exact .inl ⟨i, rfl, by unfold gvOf; rw [hk]; exact h⟩
  | none =>
   have h1 : lk (outH l st.x h' st.h) (rn l st.x i) = lk (deadH l ++ st.h) (rn l st.x i) := by rw [outH, lk_append, lk_ren hinj, hk]; rfl
   rw [h1, lk_append] at h
   rcases Nat.lt_or_ge i l.length with hi | hi
   ·rw [rn_lt hi, lk_dead_mem (nm_mem hi)] at h
    simp [O.live] at h
   ·have hx : st.x ≤ rn l st.x i := by rw [rn_ge hi]; omega
    rw [lk_dead_not (fun hm => by have := hd.lt _ hm; omega)] at h
    simp only at h
    have : gvOf st.h g (rn l st.x i) = some (g (rn l st.x i)) → False := fun hh => by have := (r.obj _ _ hh).1; omega
    cases hk2 : lk st.h (rn l st.x i) with
    | none => rw [hk2] at h; cases h
    | some o =>
     rw [hk2] at h
     simp only at h
     cases ho : o.live with
     | true => exact (this (by unfold gvOf; rw [hk2]; simp [ho])).elim
     | false => rw [ho] at h; cases h
 ·have hnl : id ∉ l := fun hm => by
   obtain ⟨i, hi, e⟩ := mem_nm hm
   exact hex ⟨i, by rw [rn_lt hi]; exact e.symm⟩
  have hlt : id < st.x := by
   rcases Nat.lt_or_ge id st.x with hh | hh
   ·exact hh
   ·exact absurd ⟨id - st.x + l.length, by rw [rn_ge (by omega)]; omega⟩ hex
  have h1 : lk (outH l st.x h' st.h) id = lk st.h id := by
   rw [outH, lk_append, lk_ren_none _ _ (fun i e => hex ⟨i, e.symm⟩), lk_append, lk_dead_not hnl]
  refine .inr ⟨hnl, hlt, ?_, h1⟩
  unfold gvOf at h ⊢
  rw [h1] at h
  have hg : outG l st.x g' g id = g id := by
   unfold outG
   rw [if_neg (by omega), List.idxOf?_eq_none_iff.2 hnl]
  rw [hg] at h
  exact h
end
end Go.Proofs.Ytfjfbapiheehaaa.V
namespace Go.Proofs.Ytfjfbapiheehaaa.V
open Go Go.RowKit Go.Proofs.YtfjfbapiheehaaaW.PrintWords
section
variable {n : Nat} {cx : Cx} {g g' : Nat → Value} {st : St} {a : Act} {w w' : World} {l : List Nat} {ch h' : Heap} {x' : Nat}
theorem call_own (hd : Hand l ch st) {k : Nat} (h : Own ch (gIn g l) k) : Own st.h g k := let ⟨id, v, h1, h2⟩ := h; ⟨nm l id, v, (hd.gv h1).2.1, h2⟩
theorem call_keep (hd : Hand l ch st) (hh : HRep (cxOf (apartOf cx g st.h l) (gIn g l) ch l.length w) g' h' x' w') {k : Nat} (hk : k < w.heap.size) (hn : ¬ Own ch (gIn g l) k) : w'.heap[k]? = w.heap[k]? := hh.old k hk hn
theorem call_mine (hd : Hand l ch st) (hh : HRep (cxOf (apartOf cx g st.h l) (gIn g l) ch l.length w) g' h' x' w') {i : Nat} {v : Value} {k : Nat} (h1 : gvOf h' g' i = some v) (h2 : Blk v k) : k < w'.heap.size ∧ (Own ch (gIn g l) k ∨ w.heap.size ≤ k) := hh.mine i v k h1 h2
theorem call_next (hd : Hand l ch st) (r : HRep cx g st.h st.x w) (hh : HRep (cxOf (apartOf cx g st.h l) (gIn g l) ch l.length w) g' h' x' w') : Next st.h g st.x w (outH l st.x h' st.h) (outG l st.x g' g) (st.x + (x' - l.length)) w' := by
 refine ⟨⟨hh.size, ?_, fun k hk hn => call_keep hd hh hk (fun ho => hn (call_own hd ho))⟩, ?_, Nat.le_add_right _ _⟩
 ·rintro k hk ⟨id, v, h1, h2⟩
  rcases out_cases hd r h1 with ⟨i, rfl, h3⟩ | ⟨_, _, h3, _⟩
  ·rcases (call_mine hd hh h3 h2).2 with h4 | h4
   ·exact call_own hd h4
   ·omega
  ·exact ⟨id, v, h3, h2⟩
 ·intro id v hlt h1
  rcases out_cases hd r h1 with ⟨i, rfl, h3⟩ | ⟨_, _, h3, _⟩
  ·rcases Nat.lt_or_ge i l.length with hi | hi
   ·have := hh.first i v hi h3
    have h4 := (hd.gv this).2.1
    rw [rn_lt hi]; exact h4
   ·rw [rn_ge hi] at hlt; omega
  ·exact h3
theorem call_touch (hd : Hand l ch st) (r : HRep cx g st.h st.x w) (hh : HRep (cxOf (apartOf cx g st.h l) (gIn g l) ch l.length w) g' h' x' w') : Touch l st.h g st.x w (outH l st.x h' st.h) (outG l st.x g' g) w' := by
 refine ⟨fun k hk hn => call_keep hd hh hk ?_, ?_⟩
 ·rintro ⟨id, v, h1, h2⟩
  obtain ⟨h3, h4, _⟩ := hd.gv h1
  exact hn _ (nm_mem h3) v h4 h2
 ·intro id v k hx h1 h2
  rcases out_cases hd r h1 with ⟨i, rfl, h3⟩ | ⟨_, hlt, _⟩
  ·rcases (call_mine hd hh h3 h2).2 with ⟨id', v', h4, h5⟩ | h4
   ·obtain ⟨h6, h7, _⟩ := hd.gv h4
    exact .inr ⟨_, nm_mem h6, v', h7, h5⟩
   ·exact .inl h4
  ·omega
theorem call_rd (hd : Hand l ch st) (r : HRep cx g st.h st.x w) (a : Addr) (v : Value) (h : Rd (apartOf cx g st.h l) h' g' w' a v) : Rd cx.z (outH l st.x h' st.h) (outG l st.x g' g) w' a v := by
 refine ⟨fun hz => h.z (.inl hz), ?_, h.cell⟩
 rintro ⟨id, u, h1, h2⟩
 rcases out_cases hd r h1 with ⟨i, rfl, h3⟩ | ⟨h4, _, h3, _⟩
 ·exact h.own ⟨i, u, h3, h2⟩
 ·exact h.z (.inr ⟨id, u, h3, h2, h4⟩)
theorem call_lt (hd : Hand l ch st) (hh : HRep (cxOf (apartOf cx g st.h l) (gIn g l) ch l.length w) g' h' x' w') (i : Nat) (hi : i < x') : rn l st.x i < st.x + (x' - l.length) := by
 have hlow : l.length ≤ x' := hh.low
 rcases Nat.lt_or_ge i l.length with h | h
 ·rw [rn_lt h]
  have := hd.lt _ (nm_mem h)
  omega
 ·rw [rn_ge h]; omega
theorem call_v (hd : Hand l ch st) (r : HRep cx g st.h st.x w) (hh : HRep (cxOf (apartOf cx g st.h l) (gIn g l) ch l.length w) g' h' x' w') {v : V} {m : Value} (h : VRep (Rd (apartOf cx g st.h l) h' g' w') (gvOf h' g') x' v m) :
  VRep (Rd cx.z (outH l st.x h' st.h) (outG l st.x g' g) w') (gvOf (outH l st.x h' st.h) (outG l st.x g' g)) (st.x + (x' - l.length)) (v.ren (rn l st.x)) m := by
 refine h.rename (call_rd hd r) (fun id u hid h1 => ?_) (call_lt hd hh)
 rcases out_cases hd r h1 with ⟨i, e, h3⟩ | ⟨h4, h5, _⟩
 ·rw [rn_inj hd.nd hd.lt e]; exact h3
 ·rcases Nat.lt_or_ge id l.length with hi | hi
  ·rw [rn_lt hi] at h4; exact absurd (nm_mem hi) h4
  ·rw [rn_ge hi] at h5; omega
theorem call_hrep (hd : Hand l ch st) (r : HRep cx g st.h st.x w) (hh : HRep (cxOf (apartOf cx g st.h l) (gIn g l) ch l.length w) g' h' x' w') : HRep cx (outG l st.x g' g) (outH l st.x h' st.h) (st.x + (x' - l.length)) w' := by
 have nx := call_next hd r hh
 have hinj : ∀ i j, rn l st.x i = rn l st.x j → i = j := fun i j => rn_inj hd.nd hd.lt
 refine ⟨hh.os.trans r.os, hh.tape.trans r.tape, hh.output.trans r.output, Nat.le_trans r.size hh.size, ?_, ?_, ?_, ?_, ?_, Nat.le_trans r.low nx.x, r.apz⟩
 ·intro k hk hown
  refine (nx.m.keep k (Nat.lt_of_lt_of_le hk r.size) ?_).trans (r.old k hk hown)
  rintro ⟨id, v, h1, h2⟩
  rcases (r.mine id v k h1 h2).2 with h3 | h3
  ·exact hown h3
  ·omega
 ·intro id v h1
  rcases out_cases hd r h1 with ⟨i, rfl, h3⟩ | ⟨h4, h5, h3, h6⟩
  ·obtain ⟨h7, o, h8, h9⟩ := hh.obj i v h3
   refine ⟨call_lt hd hh i h7, o.ren (rn l st.x), ?_, h9.rename (call_rd hd r) (fun id u hid h1 => ?_) (call_lt hd hh)⟩
   ·rw [outH, lk_append, lk_ren hinj, h8]; rfl
   ·rcases out_cases hd r h1 with ⟨i, e, h3⟩ | ⟨h4, h5, _⟩
    ·rw [hinj _ _ e]; exact h3
    ·rcases Nat.lt_or_ge id l.length with hi | hi
     ·rw [rn_lt hi] at h4; exact absurd (nm_mem hi) h4
     ·rw [rn_ge hi] at h5; omega
  ·obtain ⟨h7, o, h8, h9⟩ := r.obj id v h3
   refine ⟨Nat.lt_of_lt_of_le h7 nx.x, o, h6.trans h8, h9.next nx (fun k hk => call_keep hd hh (r.mine _ _ _ h3 hk).1 ?_)⟩
   rintro ⟨j, u, e1, e2⟩
   obtain ⟨e3, e4, _⟩ := hd.gv e1
   have := r.apart _ _ _ _ _ h3 e4 hk e2
   rw [this] at h4
   exact h4 (nm_mem e3)
 ·intro id id' v v' k h1 h2 h3 h4
  have mixed : ∀ {i : Nat} {v v' : Value} {id' : Nat}, gvOf h' g' i = some v → Blk v k → id' ∉ l → gvOf st.h g id' = some v' → Blk v' k → False := by
   intro i v v' id' e1 e2 e3 e4 e5
   rcases (call_mine hd hh e1 e2).2 with ⟨j, u, e6, e7⟩ | e6
   ·obtain ⟨e8, e9, _⟩ := hd.gv e6
    have := r.apart _ _ _ _ _ e4 e9 e5 e7
    rw [this] at e3
    exact e3 (nm_mem e8)
   ·have := (r.mine _ _ _ e4 e5).1; omega
  rcases out_cases hd r h1 with ⟨i, rfl, e1⟩ | ⟨e2, _, e1, _⟩ <;> rcases out_cases hd r h2 with ⟨i', rfl, e1'⟩ | ⟨e2', _, e1', _⟩
  ·rw [hh.apart _ _ _ _ _ e1 e1' h3 h4]
  ·exact (mixed e1 h3 e2' e1' h4).elim
  ·exact (mixed e1' h4 e2 e1 h3).elim
  ·exact r.apart _ _ _ _ _ e1 e1' h3 h4
 ·intro id v k h1 h2
  rcases out_cases hd r h1 with ⟨i, rfl, h3⟩ | ⟨_, _, h3, _⟩
  ·obtain ⟨h4, h5⟩ := call_mine hd hh h3 h2
   refine ⟨h4, ?_⟩
   rcases h5 with h5 | h5
   ·obtain ⟨id', v', h6, h7⟩ := call_own hd h5
    exact (r.mine _ _ _ h6 h7).2
   ·exact .inr (Nat.le_trans r.size h5)
  ·have := r.mine _ _ _ h3 h2
   exact ⟨Nat.lt_of_lt_of_le this.1 hh.size, this.2⟩
 ·intro id v hlt h1
  exact r.first id v hlt (nx.g id v (Nat.lt_of_lt_of_le hlt r.low) h1)
end
section
variable {P : Program} {n : Nat} {cx : Cx} {st : St} {o : Oper} {E : List PanicEntry → St → Prop}
def evs (s : List (Nat × V)) : List Operand → Option (List V)
 | [] => some []
 | x :: xs => match ev s x, evs s xs with
  | some v, some vs => some (v :: vs)
  | _, _ => none
theorem evs_get {s : List (Nat × V)} {xs : List Operand} {vs : List V} (h : evs s xs = some vs) : xs.length = vs.length ∧ ∀ (i : Nat) (x : Operand) (v : V), xs[i]? = some x → vs[i]? = some v → ev s x = some v := by
 induction xs generalizing vs with
 | nil => obtain rfl := Option.some.inj h; exact ⟨rfl, fun i x v h => by simp at h⟩
 | cons x xs ih =>
  simp only [evs] at h
  cases h1 : ev s x with
  | none => rw [h1] at h; cases h
  | some v =>
   cases h2 : evs s xs with
   | none => rw [h1, h2] at h; cases h
   | some vs' =>
    rw [h1, h2] at h
    obtain rfl := Option.some.inj h
    obtain ⟨e1, e2⟩ := ih h2
    refine ⟨by simp [e1], fun i y u hy hu => ?_⟩
    cases i with
    | zero => simp at hy hu; subst hy; subst hu; exact h1
    | succ i => exact e2 i y u (by simpa using hy) (by simpa using hu)
theorem VOp.call {x : Operand} {xs : Array Operand} {ts : Array TypeId} {f : FuncId} {fn : Func} {caps vs cargs : List V} {l : List Nat} {ch : Heap} {Q : VOut → Heap → Nat → Prop} (ho : o.op = .call { callee := .value x, args := xs, argTypes := ts })
  (hf : P.funcs[f]? = some fn) (hb : fn.body.isSome = true) (hnm : (fn.name == "runtime.NumGoroutine") = false)
  (hx : ev st.s x = some (.fn f caps)) (hv : evs st.s xs.toList = some vs) (hd : Hand l ch st) (ha : vs ++ caps = V.renL (nm l) cargs) (hl : V.ltL l.length cargs = true) (hc : VCalls P f cargs ch l.length Q)
  (hE : ∀ c h' x', Q (.panic c) h' x' → E c ⟨st.s, outH l st.x h' st.h, st.x + (x' - l.length)⟩) :
  VOp P n cx l o (fun v' h' x' => ∃ out ch' cx', Q (.ret out) ch' cx' ∧ v' = out.ren (rn l st.x) ∧ h' = outH l st.x ch' st.h ∧ x' = st.x + (cx' - l.length)) E st := fun g a w r Kc Qc hk hp => by
 have h1 := ev_rep r hx
 obtain ⟨e1, e2⟩ := evs_get hv
 generalize he : a.eval x = mm at h1
 cases h1 with
 | fn _ _ mc h2 h3 =>
  have hsz : (xs.map a.eval ++ mc).size = cargs.length := by
   have := congrArg List.length ha
   rw [List.length_append, renL_length] at this
   rw [Array.size_append, Array.size_map, h2]
   have : xs.size = vs.length := by rw [← e1]; simp
   omega
  have hargs : ∀ (i : Nat) (v : V) (m : Value), cargs[i]? = some v → (xs.map a.eval ++ mc)[i]? = some m → VRep (Rd (apartOf cx g st.h l) ch (gIn g l) w) (gvOf ch (gIn g l)) l.length v m := by
   intro i v m hv' hm
   refine hd.v ?_ (ltL_get hl i v hv')
   have hav : (vs ++ caps)[i]? = some (v.ren (nm l)) := by rw [ha, renL_get, hv']; rfl
   rw [List.getElem?_append] at hav
   rw [Array.getElem?_append] at hm
   have hxl : (xs.map a.eval).size = vs.length := by rw [Array.size_map, ← e1]; simp
   rw [hxl] at hm
   split at hav
   ·rename_i hi
    rw [if_pos hi, Array.getElem?_map] at hm
    cases hxi : xs[i]? with
    | none => rw [hxi] at hm; cases hm
    | some y =>
     rw [hxi] at hm
     obtain rfl := Option.some.inj hm
     exact ev_rep r (e2 i y _ (by simpa using hxi) hav)
   ·rename_i hi
    rw [if_neg hi] at hm
    exact h3 _ _ _ hav hm
  have hcall := hc (apartOf cx g st.h l) (gIn g l) w (xs.map a.eval ++ mc) (hd.hrep r.h) hsz hargs
  have hrun : (execOp a.eval o).run P w = .ok (.enter f (xs.map a.eval ++ mc)) w := by
   unfold execOp; rw [ho]
   have hbn : fn.body.isNone = false := by cases hbb : fn.body with
    | none => rw [hbb] at hb; cases hb
    | some _ => rfl
   have hnm' : ¬ (fn.name = "runtime.NumGoroutine") := by simpa using hnm
   simp [resolve, he, Deferred.ofValue, invoke, callFunc, hf, hbn, hnm']
   intro hh; rw [hh] at hb; cases hb
  unfold Oper.wp
  rw [hrun, Oper.upon_enter]
  refine hcall.mono ?_
  rintro e w' ⟨g', h', x', out, hh, hout, hQ⟩
  cases e with
  | returned m =>
   cases out with
   | ret v =>
    exact hk _ _ m _ _ w' ⟨v, h', x', hQ, rfl, rfl, rfl⟩ (call_hrep hd r.h hh) (call_v hd r.h hh hout) (call_next hd r.h hh) (call_touch hd r.h hh)
   | panic c => exact hout.elim
  | panicked c =>
   cases out with
   | ret v => exact hout.elim
   | panic c' =>
    have : c = c' := hout
    subst this
    exact hp c _ _ w' (hE _ _ _ hQ) (call_hrep hd r.h hh)
  | outgrown => cases out <;> exact hout.elim
end
end Go.Proofs.Ytfjfbapiheehaaa.V
namespace Go.Proofs.Ytfjfbapiheehaaa.V
open Go Go.RowKit
section
variable {P : Program} {n : Nat} {cx : Cx} {Q : VExit → St → Prop} {st : St} {ops : Array Oper} {K : St → Prop} {E : List PanicEntry → St → Prop} {i : Nat} {o : Oper} {rest : List Oper}
section
variable {s : List (Nat × V)} {h : Heap} {x d : Nat} {v : V} {dr : Nat} {m : List Nat}
theorem VOps.vv (hw : wantedV ops o s = some true) (hs : okL dr ops i = true) (hd : o.dst = some d) (h1 : VLoad P n cx m o ⟨s, h, x⟩ v) (h2 : VOps P n cx dr m ops K E (i + 1) rest ⟨(d, v) :: s, h, x⟩) : VOps P n cx dr m ops K E i (o :: rest) ⟨s, h, x⟩ :=
 VOps.val hw hs h1 (by rw [hd]; exact h2)
theorem VOps.vp (hw : wantedV ops o s = some true) (hs : okP dr ops i = true) (hd : o.dst = some d) (h1 : VPure P n cx o ⟨s, h, x⟩ v) (h2 : VOps P n cx dr m ops K E (i + 1) rest ⟨(d, v) :: s, h, x⟩) : VOps P n cx dr m ops K E i (o :: rest) ⟨s, h, x⟩ :=
 VOps.pval hw hs h1 (by rw [hd]; exact h2)
theorem VOps.oo {m' : List Nat} {hh : Heap} {xx : Nat} (hw : wantedV ops o s = some true) (hs : okM dr ops i m m' = true) (hd : o.dst = some d) (h1 : VOp P n cx m' o (fun v' h' x' => v' = v ∧ h' = hh ∧ x' = xx) E ⟨s, h, x⟩) (h2 : VOps P n cx (nxt dr) m ops K E (i + 1) rest ⟨(d, v) :: s, hh, xx⟩) : VOps P n cx dr m ops K E i (o :: rest) ⟨s, h, x⟩ :=
 VOps.op hw hs h1 (by rintro _ _ _ ⟨rfl, rfl, rfl⟩; rw [hd]; exact h2)
theorem VOps.oo0 {m' : List Nat} {hh : Heap} {xx : Nat} (hw : wantedV ops o s = some true) (hs : okM dr ops i m m' = true) (hd : o.dst = none) (h1 : VOp P n cx m' o (fun v' h' x' => v' = v ∧ h' = hh ∧ x' = xx) E ⟨s, h, x⟩) (h2 : VOps P n cx (nxt dr) m ops K E (i + 1) rest ⟨s, hh, xx⟩) : VOps P n cx dr m ops K E i (o :: rest) ⟨s, h, x⟩ :=
 VOps.op hw hs h1 (by rintro _ _ _ ⟨rfl, rfl, rfl⟩; rw [hd]; exact h2)
theorem VOps.passv (hw : wantedV ops o s = some false) (hs : okP dr ops i = true) (hd : o.dst = some d) (h2 : VOps P n cx dr m ops K E (i + 1) rest ⟨(d, .tup []) :: s, h, x⟩) : VOps P n cx dr m ops K E i (o :: rest) ⟨s, h, x⟩ := VOps.pass hw hs hd h2
end
theorem VCode.retL (h : Less cx (Q .ret) st) : VCode P n cx .ret Q st := VCode.less (let ⟨l, st', a, b, c, d⟩ := h; ⟨l, st', a, b, c, VCode.ret d⟩)
theorem Less.mk {l : List Nat} {st' : St} (h0 : cx.x = 0) (hs : SubS (nm l) st'.x st'.s st.s) (hh : SubH (nm l) st'.x st'.h st.h) (hl : l.length = st'.x) (hn : l.Nodup) (hlt : (l.all fun i => Nat.blt i st.x) = true) (k : K st') : Less cx K st :=
 ⟨l, st', ⟨hs, hh, hl, hn, fun i hi => by simpa using List.all_eq_true.1 hlt i hi⟩, by omega, fun i hi => by omega, k⟩
theorem Less.mkx {l : List Nat} {st' : St} (m : Nat) (h0 : cx.x = m) (hm : m ≤ st'.x) (hf : ∀ i, i < m → nm l i = i) (hs : SubS (nm l) st'.x st'.s st.s) (hh : SubH (nm l) st'.x st'.h st.h) (hl : l.length = st'.x) (hn : l.Nodup) (hlt : (l.all fun i => Nat.blt i st.x) = true) (k : K st') : Less cx K st :=
 ⟨l, st', ⟨hs, hh, hl, hn, fun i hi => by simpa using List.all_eq_true.1 hlt i hi⟩, by omega, fun i hi => hf i (by omega), k⟩
theorem VCode.cond_t {c : Operand} {x y : Code} {b : Bool} (hc : ev st.s c = some (.val (.bool b))) (hb : b = true) (h : VCode P n cx x Q st) : VCode P n cx (.cond c x y) Q st :=
 VCode.cond hc (fun _ => h) (fun h' => by rw [hb] at h'; cases h')
theorem VCode.cond_f {c : Operand} {x y : Code} {b : Bool} (hc : ev st.s c = some (.val (.bool b))) (hb : b = false) (h : VCode P n cx y Q st) : VCode P n cx (.cond c x y) Q st :=
 VCode.cond hc (fun h' => by rw [hb] at h'; cases h') (fun _ => h)
theorem VPure.len_map {α : Type} {x : Operand} {t e : TypeId} {sz : Nat} {f : α → List D} {xs : List α} (hu : P.underlying t = some (.slice e)) (ho : o.op = .call { callee := .builtin .len, args := #[x], argTypes := #[t] }) (hx : ev st.s x = some (.sl sz (xs.map f))) : VPure P n cx o st (.val (.int .i64 xs.length)) := by
 have := VPure.len_sl (n := n) (cx := cx) hu ho hx
 rw [List.length_map] at this; exact this
theorem VPure.idx_map {α : Type} {t e : TypeId} {x y : Operand} {s b s' b' : Nat} {z z' : Value} {d' : TypeDesc} {k : IntKind} {j : Nat} {f : α → List D} {xs : List α} {u : α} (ho : o.op = .indexAddr t x y) (hx : ev st.s x = some (.sl s' (xs.map f))) (hy : ev st.s y = some (.val (.int k (j : Int)))) [ht : TI P t (.slice e) s b z] [he : TI P e d' s' b' z'] (h1 : xs[j]? = some u) :
  VPure P n cx o st (.el (f u)) := by
 have hj : j < xs.length := (List.getElem?_eq_some_iff.1 h1).1
 have := VPure.idx_sl (n := n) (cx := cx) ho hx hy (ht := ht) (he := he) (by omega) (by rw [List.length_map]; omega)
 rw [Int.toNat_natCast, List.getD_eq_getElem?_getD, List.getElem?_map, h1] at this
 exact this
def Gives (r : V) (o : VOut) (h : Heap) (x : Nat) : Prop := o = .ret r ∧ h = [] ∧ x = 0
theorem VOp.gives {x : Operand} {xs : Array Operand} {ts : Array TypeId} {f : FuncId} {fn : Func} {vs : List V} {r : V} (ho : o.op = .call { callee := .value x, args := xs, argTypes := ts })
  (hf : P.funcs[f]? = some fn) (hb : fn.body.isSome = true) (hnm : (fn.name == "runtime.NumGoroutine") = false)
  (hx : ev st.s x = some (.fn f [])) (hv : evs st.s xs.toList = some vs) (ha : vs = V.renL (nm []) vs) (hl : V.ltL 0 vs = true) (hc : VCalls P f vs [] 0 (Gives r)) (hr : r.ren (rn [] st.x) = r) :
  VOp P n cx [] o (fun v' h' x' => v' = r ∧ h' = st.h ∧ x' = st.x) E st := by
 have := VOp.call (E := E) (st := st) (o := o) (n := n) (cx := cx) ho hf hb hnm hx hv (Hand.none st) (by rw [List.append_nil]; exact ha) hl hc (fun c h' x' hq => by cases hq.1)
 intro g a w rr Kc Qc hk hp
 refine this g a w rr Kc Qc ?_ hp
 rintro g' v mv h' x' w' ⟨out, ch', cx', ⟨h1, h2, h3⟩, h4, h5, h6⟩
 injection h1 with h1
 subst h1; subst h2; subst h3; subst h4; subst h5; subst h6
 exact hk g' _ mv _ _ w' ⟨hr, rfl, rfl⟩
theorem wrap_in {a : Int} (h : -9223372036854775808 ≤ a ∧ a < 9223372036854775808) : wrap64 a = a := by unfold wrap64; omega
theorem VPure.addK {t t' : TypeId} {x y : Operand} {a b : Int} (ho : o.op = .binOp .add t x y t') (hx : ev st.s x = some (.val (.int .i64 a))) (hy : ev st.s y = some (.val (.int .i64 b))) (h : -9223372036854775808 ≤ a + b ∧ a + b < 9223372036854775808) : VPure P n cx o st (.val (.int .i64 (a + b))) := by
 have := VPure.add (n := n) (cx := cx) (P := P) ho hx hy
 rw [wrap_in h] at this; exact this
theorem VPure.subK {t t' : TypeId} {x y : Operand} {a b : Int} (ho : o.op = .binOp .sub t x y t') (hx : ev st.s x = some (.val (.int .i64 a))) (hy : ev st.s y = some (.val (.int .i64 b))) (h : -9223372036854775808 ≤ a - b ∧ a - b < 9223372036854775808) : VPure P n cx o st (.val (.int .i64 (a - b))) := by
 have := VPure.sub (n := n) (cx := cx) (P := P) ho hx hy
 rw [wrap_in h] at this; exact this
theorem Rep.same {g : Nat → Value} {a : Act} {w : World} {s s' : List (Nat × V)} {h : Heap} {x : Nat} (r : Rep n cx g ⟨s, h, x⟩ a w) (e : ∀ d v, lk s' d = some v → lk s d = some v) : Rep n cx g ⟨s', h, x⟩ a w := ⟨r.h, r.size, r.defers, fun d v hd => r.s d v (e d v hd)⟩
theorem over_same {s : List (Nat × V)} {d : Nat} {v : V} (hd : lk s d = some v) : ∀ e u, lk ((d, v) :: s) e = some u → lk s e = some u := fun e u h => by
 rw [lk_cons] at h
 by_cases he : d = e
 ·subst he; rw [if_pos rfl] at h; rw [hd]; exact h
 ·rw [if_neg he] at h; exact h
theorem VOps.bool {dr : Nat} {m : List Nat} {s : List (Nat × V)} {h : Heap} {x d : Nat} {c : Bool} (hd : lk s d = some (.val (.bool c))) (ht : c = true → VOps P n cx dr m ops K E i rest ⟨(d, .val (.bool true)) :: s, h, x⟩) (hf : c = false → VOps P n cx dr m ops K E i rest ⟨(d, .val (.bool false)) :: s, h, x⟩) : VOps P n cx dr m ops K E i rest ⟨s, h, x⟩ := fun h1 h2 g a w r => by
 cases c with
 | true => exact ht rfl h1 h2 g a w (r.same (over_same hd))
 | false => exact hf rfl h1 h2 g a w (r.same (over_same hd))
theorem VCode.bool {c : Code} {s : List (Nat × V)} {h : Heap} {x d : Nat} {b : Bool} (hd : lk s d = some (.val (.bool b))) (ht : b = true → VCode P n cx c Q ⟨(d, .val (.bool true)) :: s, h, x⟩) (hf : b = false → VCode P n cx c Q ⟨(d, .val (.bool false)) :: s, h, x⟩) : VCode P n cx c Q ⟨s, h, x⟩ := fun g a w r => by
 cases b with
 | true => exact ht rfl g a w (r.same (over_same hd))
 | false => exact hf rfl g a w (r.same (over_same hd))
theorem VCode.says {c : Code} {s : List (Nat × V)} {h : Heap} {x d : Nat} {v u : V} (hd : lk s d = some u) (e : u = v) (H : VCode P n cx c Q ⟨(d, v) :: s, h, x⟩) : VCode P n cx c Q ⟨s, h, x⟩ := fun g a w r => H g a w (r.same (over_same (by rw [hd, e])))
theorem VOps.says {dr : Nat} {m : List Nat} {s : List (Nat × V)} {h : Heap} {x d : Nat} {v u : V} (hd : lk s d = some u) (e : u = v) (H : VOps P n cx dr m ops K E i rest ⟨(d, v) :: s, h, x⟩) : VOps P n cx dr m ops K E i rest ⟨s, h, x⟩ := fun h1 h2 g a w r => H h1 h2 g a w (r.same (over_same (by rw [hd, e])))
end
end Go.Proofs.Ytfjfbapiheehaaa.V
namespace Go.Proofs.Ytfjfbapiheehaaa.V
open Go Go.RowKit
mutual
def V.frz (id sz : Nat) (xs : List (List D)) : V → V
 | .val v => .val v
 | .sl sz xs => .sl sz xs
 | .agg cs => .agg (V.frzL id sz xs cs)
 | .tup cs => .tup (V.frzL id sz xs cs)
 | .fn f cs => .fn f (V.frzL id sz xs cs)
 | .ptr i off => .ptr i off
 | .ael i pos => match Nat.beq i id with
  | true => .junk
  | false => .ael i pos
 | .el cs => .el cs
 | .ref i => match Nat.beq i id with
  | true => .sl sz xs
  | false => .ref i
 | .junk => .junk
def V.frzL (id sz : Nat) (xs : List (List D)) : List V → List V
 | [] => []
 | c :: cs => V.frz id sz xs c :: V.frzL id sz xs cs
end
def O.frz (id sz : Nat) (xs : List (List D)) : O → O
 | .cells t cs => .cells t (V.frzL id sz xs cs)
 | o => o
def frzS (id sz : Nat) (xs : List (List D)) : List (Nat × V) → List (Nat × V)
 | [] => []
 | (d, v) :: s => (d, v.frz id sz xs) :: frzS id sz xs s
def frzH (id sz : Nat) (xs : List (List D)) : Heap → Heap
 | [] => []
 | (d, o) :: h => match Nat.beq d id with
  | true => frzH id sz xs h
  | false => (d, o.frz id sz xs) :: frzH id sz xs h
theorem frzL_get (id sz : Nat) (xs : List (List D)) (cs : List V) : ∀ (i : Nat), (V.frzL id sz xs cs)[i]? = (cs[i]?).map (V.frz id sz xs) := by
 induction cs with
 | nil => intro i; simp [V.frzL]
 | cons c cs ih => intro i; cases i with
  | zero => simp [V.frzL]
  | succ i => simp [V.frzL, ih]
theorem frzL_length (id sz : Nat) (xs : List (List D)) (cs : List V) : (V.frzL id sz xs cs).length = cs.length := by
 induction cs with
 | nil => rfl
 | cons c cs ih => simp [V.frzL, ih]
theorem lk_frzS (id sz : Nat) (xs : List (List D)) (s : List (Nat × V)) (d : Nat) : lk (frzS id sz xs s) d = (lk s d).map (V.frz id sz xs) := by
 induction s with
 | nil => rfl
 | cons p s ih =>
  obtain ⟨e, v⟩ := p
  simp only [frzS, lk_cons]
  split
  ·rfl
  ·exact ih
theorem lk_frzH (id sz : Nat) (xs : List (List D)) (h : Heap) (d : Nat) : lk (frzH id sz xs h) d = if d = id then none else (lk h d).map (O.frz id sz xs) := by
 induction h with
 | nil => simp [frzH, lk]
 | cons p h ih =>
  obtain ⟨e, o⟩ := p
  simp only [frzH]
  cases hb : Nat.beq e id with
  | true =>
   have := Nat.eq_of_beq_eq_true hb
   subst this
   simp only [lk_cons, ih]
   by_cases hd : d = e
   ·subst hd; simp
   ·have hd' : ¬ e = d := fun h => hd h.symm
    rw [if_neg hd, if_neg hd, if_neg hd']
  | false =>
   have hne : e ≠ id := by rintro rfl; rw [Nat.beq_refl] at hb; cases hb
   simp only [lk_cons, ih]
   by_cases hd : e = d
   ·subst hd; simp [hne]
   ·rw [if_neg hd, if_neg hd]
theorem O.frz_live (id sz : Nat) (xs : List (List D)) (o : O) : (o.frz id sz xs).live = o.live := by cases o <;> rfl
theorem gv_frz {id sz : Nat} {xs : List (List D)} {h : Heap} {g : Nat → Value} (i : Nat) : gvOf (frzH id sz xs h) g i = if i = id then none else gvOf h g i := by
 unfold gvOf
 rw [lk_frzH]
 by_cases hi : i = id
 ·simp [hi]
 ·rw [if_neg hi, if_neg hi]
  cases lk h i with
  | none => rfl
  | some o => simp [O.frz_live]
theorem VRep.frz {R R' : Addr → Value → Prop} {gv gv' : Nat → Option Value} {x id sz : Nat} {xs : List (List D)} {u : Value} (hR : ∀ a v, R a v → R' a v) (hg : ∀ i v, gv' i = some v → gv i = some v) (hu : gv id = some u) (hs : DRep R' (.sl sz xs) (hdV u)) {v : V} {m : Value} (h : VRep R gv x v m) : VRep R' gv' x (v.frz id sz xs) m := by
 induction h with
 | val v h => exact .val v h
 | sl sz xs m h => exact .sl sz xs m (h.mono hR)
 | agg cs ms h1 _ ih =>
  refine .agg _ ms (by rw [frzL_length]; exact h1) (fun i c m hc hm => ?_)
  rw [frzL_get] at hc
  cases hci : cs[i]? with
  | none => rw [hci] at hc; cases hc
  | some c' => rw [hci] at hc; obtain rfl := Option.some.inj hc; exact ih i c' m hci hm
 | tup cs ms h1 _ ih =>
  refine .tup _ ms (by rw [frzL_length]; exact h1) (fun i c m hc hm => ?_)
  rw [frzL_get] at hc
  cases hci : cs[i]? with
  | none => rw [hci] at hc; cases hc
  | some c' => rw [hci] at hc; obtain rfl := Option.some.inj hc; exact ih i c' m hci hm
 | fn f cs ms h1 _ ih =>
  refine .fn f _ ms (by rw [frzL_length]; exact h1) (fun i c m hc hm => ?_)
  rw [frzL_get] at hc
  cases hci : cs[i]? with
  | none => rw [hci] at hc; cases hc
  | some c' => rw [hci] at hc; obtain rfl := Option.some.inj hc; exact ih i c' m hci hm
 | ptr id' off m h1 h0 h2 => exact .ptr id' off m h1 h0 (fun b hb => h2 b (hg _ _ hb))
 | ael id' pos m h1 h0 h2 =>
  simp only [V.frz]
  split
  ·exact .junk _
  ·exact .ael id' pos m h1 h0 (fun v ad n c hb => h2 v ad n c (hg _ _ hb))
 | el cs ad h => exact .el cs ad (fun j d hj => let ⟨m, hm, hd⟩ := h j d hj; ⟨m, hR _ _ hm, hd.mono hR⟩)
 | ref id' m h1 h0 h2 =>
  simp only [V.frz]
  split
  ·rename_i hb
   have := Nat.eq_of_beq_eq_true hb
   subst this
   rw [h2 u hu]
   exact .sl _ _ _ hs
  ·exact .ref id' m h1 h0 (fun v hv => h2 v (hg _ _ hv))
 | junk m => exact .junk m
section
variable {P : Program} {n : Nat} {cx : Cx} {Q : VExit → St → Prop} {st : St}
theorem own_data {g : Nat → Value} {a : Act} {w : World} (r : Rep n cx g st a w) {id : Nat} {t : TypeId} {sz : Nat} {xs : List (List D)} (hh : lk st.h id = some (.arr t sz xs)) : ∃ u, gvOf st.h g id = some u ∧ hdV u = u ∧ ∀ (R' : Addr → Value → Prop), (∀ a v, Rd cx.z st.h g w a v → R' a v) → (∀ a v b, blk u = some b → a.block = b → w.cell? a = some v → R' a v) → DRep R' (.sl sz xs) u := by
 obtain ⟨v, ms, hgv, e1, e2, e3, e4, e5⟩ := r.arr hh
 refine ⟨v, hgv, ownsRow_hd e1, fun R' hR hb => ?_⟩
 have e1' := e1
 rcases e1.2 with ⟨rfl, h0'⟩ | ⟨bb, cap, cur, hv, _⟩
 ·rw [List.eq_nil_of_length_eq_zero h0']; exact .nil _ _ _
 ·subst hv
  have hcap : xs.length ≤ cap := by
   rcases e1'.2 with ⟨h, _⟩ | ⟨bb', cap', cur', h, h1, h2, h3⟩
   ·cases h
   ·cases h; exact h3.1
  refine .sl sz xs ⟨bb, 0, none⟩ cap (fun i j => ms.getD (i * sz + j) undef) hcap e3 e2 (fun i j d hd => ?_) (fun i j d hd => ?_)
  ·obtain ⟨m, hm, hr⟩ := e5 i j d hd
   have hc := arr_cell r hh (m := []) List.not_mem_nil (fun _ _ _ => rfl) hgv e1 (i * sz + j) m hm
   refine hb _ _ bb rfl (by unfold Addr.add; split <;> simp_all) ?_
   rw [List.getD_eq_getElem?_getD, hm]; exact hc
  ·obtain ⟨m, hm, hr⟩ := e5 i j d hd
   rw [List.getD_eq_getElem?_getD, hm]; exact hr.mono hR
theorem Rep.frz {g : Nat → Value} {a : Act} {w : World} (r : Rep n cx g st a w) {id : Nat} {t : TypeId} {sz : Nat} {xs : List (List D)} (hh : lk st.h id = some (.arr t sz xs)) : Rep n cx g ⟨frzS id sz xs st.s, frzH id sz xs st.h, st.x⟩ a w := by
 obtain ⟨u, hu, hu1, hdata⟩ := own_data r hh
 have hgv : ∀ i v, gvOf (frzH id sz xs st.h) g i = some v → i ≠ id ∧ gvOf st.h g i = some v := fun i v h => by
  rw [gv_frz] at h
  split at h
  ·cases h
  ·rename_i h1; exact ⟨h1, h⟩
 have hown : ∀ k, Own (frzH id sz xs st.h) g k → Own st.h g k := fun k ⟨i, v, h1, h2⟩ => ⟨i, v, (hgv _ _ h1).2, h2⟩
 have hrd : ∀ a v, Rd cx.z st.h g w a v → Rd cx.z (frzH id sz xs st.h) g w a v := fun a v h => ⟨h.z, fun ho => h.own (hown _ ho), h.cell⟩
 have hd : DRep (Rd cx.z (frzH id sz xs st.h) g w) (.sl sz xs) u := hdata _ hrd (fun a v b hb hab hc => by
  refine ⟨fun hz => ?_, ?_, hc⟩
  ·obtain ⟨k1, k2⟩ := r.h.apz _ hz
   rw [hab] at k1 k2
   rcases (r.h.mine _ _ _ hu (.inl hb)).2 with h | h
   ·exact k2 h
   ·omega
  ·rintro ⟨i, v', h1, h2⟩
   obtain ⟨h3, h4⟩ := hgv _ _ h1
   rw [hab] at h2
   exact h3 (r.h.apart _ _ _ _ _ h4 hu h2 (.inl hb)))
 have hv : ∀ {v : V} {m : Value}, VRep (Rd cx.z st.h g w) (gvOf st.h g) st.x v m → VRep (Rd cx.z (frzH id sz xs st.h) g w) (gvOf (frzH id sz xs st.h) g) st.x (v.frz id sz xs) m :=
  fun h => h.frz hrd (fun i v h => (hgv i v h).2) hu (by rw [hu1]; exact hd)
 refine ⟨⟨r.h.os, r.h.tape, r.h.output, r.h.size, r.h.old, ?_, ?_, ?_, ?_, r.h.low, r.h.apz⟩, r.size, r.defers, ?_⟩
 ·intro i v h
  obtain ⟨h1, h2⟩ := hgv _ _ h
  obtain ⟨h3, o, h4, h5⟩ := r.h.obj _ _ h2
  refine ⟨h3, o.frz id sz xs, by rw [lk_frzH, if_neg h1, h4]; rfl, ?_⟩
  cases h5 with
  | cells t cs b ms e1 e2 e3 e4 =>
   refine .cells t _ b ms e1 (by rw [frzL_length]; exact e2) e3 (fun i c m hc hm => ?_)
   rw [frzL_get] at hc
   cases hci : cs[i]? with
   | none => rw [hci] at hc; cases hc
   | some c' => rw [hci] at hc; obtain rfl := Option.some.inj hc; exact hv (e4 i c' m hci hm)
  | arr t sz' xs' v ms e1 e2 e3 e4 e5 => exact .arr t sz' xs' _ ms e1 e2 e3 e4 (fun i j d h => let ⟨m, hm, hd⟩ := e5 i j d h; ⟨m, hm, hd.mono hrd⟩)
  | nest t sz' rows hole v ms us e1 e2 e3 e4 e5 e6 e7 => exact ORep.nest_mv (.nest t sz' rows hole v ms us e1 e2 e3 e4 e5 e6 e7) hrd (fun k m h => by cases h with | ref _ _ q1 q2 q3 => exact .ref _ _ q1 q2 (fun v hv => q3 v (hgv _ _ hv).2)) (fun _ _ => rfl)
  | map es r' ms cl e1 e2 e3 e4 => exact .map es _ ms cl e1 e2 (fun i e m h1 h2 => ⟨(e3 i e m h1 h2).1.mono hrd, (e3 i e m h1 h2).2.mono hrd⟩) e4
  | chan cap buf closed r' ms s q e1 e2 e3 => exact .chan cap buf closed _ ms s q e1 e2 (fun i e m h1 h2 => (e3 i e m h1 h2).mono hrd)
  | iter mp n' sn' r' b sn e1 e2 e3 => exact .iter mp n' sn' _ b sn e1 e2 (by cases e3 with | ref _ _ q1 q2 q3 => exact .ref _ _ q1 q2 (fun v hv => q3 v (hgv _ _ hv).2))
 ·intro i i' v v' k h1 h2 h3 h4
  exact r.h.apart _ _ _ _ _ (hgv _ _ h1).2 (hgv _ _ h2).2 h3 h4
 ·intro i v k h1 h2
  exact r.h.mine _ _ _ (hgv _ _ h1).2 h2
 ·intro i v hlt h1
  exact r.h.first _ _ hlt (hgv _ _ h1).2
 ·intro d v h
  rw [lk_frzS] at h
  cases hl : lk st.s d with
  | none => rw [hl] at h; cases h
  | some v' => rw [hl] at h; obtain rfl := Option.some.inj h; exact hv (r.s d v' hl)
theorem VCode.freeze {c : Code} {id : Nat} {t : TypeId} {sz : Nat} {xs : List (List D)} (hh : lk st.h id = some (.arr t sz xs)) (h : VCode P n cx c Q ⟨frzS id sz xs st.s, frzH id sz xs st.h, st.x⟩) : VCode P n cx c Q st := fun g a w r => h g a w (r.frz hh)
theorem VOps.freeze {m : List Nat} {ops : Array Oper} {K : St → Prop} {E : List PanicEntry → St → Prop} {i : Nat} {rest : List Oper} {id : Nat} {t : TypeId} {sz : Nat} {xs : List (List D)} (hh : lk st.h id = some (.arr t sz xs)) (h : VOps P n cx 0 m ops K E i rest ⟨frzS id sz xs st.s, frzH id sz xs st.h, st.x⟩) : VOps P n cx 0 m ops K E i rest st :=
 fun h1 h2 g a w r => h h1 h2 g a w (r.frz hh)
end
end Go.Proofs.Ytfjfbapiheehaaa.V
namespace Go.Proofs.Ytfjfbapiheehaaa.V
open Go Go.RowKit
def lendD (h : Heap) : V → Option D
 | .val v => some (.val v)
 | .sl sz xs => some (.sl sz xs)
 | .ref i => match lk h i with
  | some (.arr _ sz xs) => some (.sl sz xs)
  | some (.nest _ sz rows none) => some (.sl sz (rows.map fun r => r.map N.toD))
  | _ => none
 | _ => none
def lendDs (h : Heap) : List V → List D
 | [] => []
 | c :: cs => match lendD h c with
  | some d => d :: lendDs h cs
  | none => []
mutual
def V.lend (h : Heap) : V → V
 | .val v => .val v
 | .sl sz xs => .sl sz xs
 | .agg cs => .agg (V.lendL h cs)
 | .tup cs => .tup (V.lendL h cs)
 | .fn f cs => .fn f (V.lendL h cs)
 | .el cs => .el cs
 | .ref i => match lk h i with
  | some (.arr _ sz xs) => .sl sz xs
  | some (.nest _ sz rows none) => .sl sz (rows.map fun r => r.map N.toD)
  | _ => .junk
 | .ptr i off => match lk h i with
  | some (.cells _ cs) => .el (lendDs h (cs.drop off))
  | _ => .junk
 | _ => .junk
def V.lendL (h : Heap) : List V → List V
 | [] => []
 | c :: cs => V.lend h c :: V.lendL h cs
end
mutual
def V.dry : V → Bool
 | .val _ => true
 | .junk => true
 | .agg cs => V.dryL cs
 | .tup cs => V.dryL cs
 | _ => false
def V.dryL : List V → Bool
 | [] => true
 | c :: cs => V.dry c && V.dryL cs
end
theorem lendL_get (h : Heap) (cs : List V) : ∀ (i : Nat), (V.lendL h cs)[i]? = (cs[i]?).map (V.lend h) := by
 induction cs with
 | nil => intro i; simp [V.lendL]
 | cons c cs ih => intro i; cases i with
  | zero => simp [V.lendL]
  | succ i => simp [V.lendL, ih]
theorem lendL_length (h : Heap) (cs : List V) : (V.lendL h cs).length = cs.length := by
 induction cs with
 | nil => rfl
 | cons c cs ih => simp [V.lendL, ih]
theorem dryL_get {cs : List V} (h : V.dryL cs = true) : ∀ (i : Nat) (c : V), cs[i]? = some c → c.dry = true := by
 induction cs with
 | nil => intro i c hc; simp at hc
 | cons d cs ih =>
  intro i c hc
  simp only [V.dryL, Bool.and_eq_true] at h
  cases i with
  | zero => simp at hc; subst hc; exact h.1
  | succ i => exact ih h.2 i c (by simpa using hc)
theorem VRep.dry {R R' : Addr → Value → Prop} {gv gv' : Nat → Option Value} {x x' : Nat} {v : V} {m : Value} (h : VRep R gv x v m) (hd : v.dry = true) : VRep R' gv' x' v m := by
 induction h with
 | val v h => exact .val v h
 | agg cs ms h1 _ ih => exact .agg cs ms h1 (fun i c m hc hm => ih i c m hc hm (dryL_get hd i c hc))
 | tup cs ms h1 _ ih => exact .tup cs ms h1 (fun i c m hc hm => ih i c m hc hm (dryL_get hd i c hc))
 | junk m => exact .junk m
 | _ => cases hd
section
variable {P : Program} {n : Nat} {cx : Cx} {E : List PanicEntry → St → Prop} {st : St} {o : Oper}
theorem InRep.data {R R' : Addr → Value → Prop} {w : World} {e : TypeId} {s : Nat} {ys : List (List D)} {m : Value} (h : InRep R w e s ys m) (hR : ∀ a v, R a v → R' a v) (hall : ∀ a v, w.cell? a = some v → R' a v) : DRep R' (.sl s ys) m := by
 obtain ⟨⟨ks, k1, k2, k3⟩, k4, k5⟩ := h
 have k1' := k1
 rcases k1.2 with ⟨rfl, h0'⟩ | ⟨bb, cap, cur, hmv, _⟩
 ·rw [List.eq_nil_of_length_eq_zero h0']; exact .nil _ _ _
 ·subst hmv
  have hcap : ys.length ≤ cap := by
   rcases k1'.2 with ⟨h, _⟩ | ⟨bb', cap', cur', h, h1, h2, h3⟩
   ·cases h
   ·cases h; exact h3.1
  have hcell : ∀ p k, ks[p]? = some k → R' ((⟨bb, 0, none⟩ : Addr).add p) k := fun p k hk => hall _ _ (k1.cells (g := bb) rfl p k hk)
  refine .sl s ys ⟨bb, 0, none⟩ cap (fun i j => ks.getD (i * s + j) undef) hcap k5 k4 (fun i j d hd => ?_) (fun i j d hd => ?_)
  ·obtain ⟨k, hk, _⟩ := k3 i j d hd
   rw [List.getD_eq_getElem?_getD, hk]; exact hcell _ _ hk
  ·obtain ⟨k, hk, hr⟩ := k3 i j d hd
   rw [List.getD_eq_getElem?_getD, hk]; exact hr.mono hR
theorem nest_data {g : Nat → Value} {a : Act} {w : World} (r : Rep n cx g st a w) {id : Nat} {t : TypeId} {sz : Nat} {rows : List (List N)} (hh : lk st.h id = some (.nest t sz rows none)) : ∃ u, gvOf st.h g id = some u ∧ ∀ (R' : Addr → Value → Prop), (∀ a v, Rd cx.z st.h g w a v → R' a v) → (∀ a v, w.cell? a = some v → R' a v) → DRep R' (.sl sz (rows.map fun r => r.map N.toD)) (hdV u) := by
 obtain ⟨v, ms, us, hgv, e1, e2, e3, e4, e5, e6, e7⟩ := r.nest hh
 refine ⟨_, hgv, fun R' hR hall => ?_⟩
 show DRep R' _ v
 have hin : InRep R' w t sz (rows.map fun r => r.map N.toD) v := by
  refine ⟨⟨ms, by rw [List.length_map]; exact e1, e4, fun i j d hd => ?_⟩, fun row hr => ?_, by rw [List.length_map]; exact e3⟩
  ·rw [rows_get] at hd
   obtain ⟨c, hc, rfl⟩ := Option.map_eq_some_iff.1 hd
   obtain ⟨m, u, hm, _, hr⟩ := e6 i j c hc
   refine ⟨m, hm, ?_⟩
   cases c with
   | dat d => exact hr.1.mono hR
   | own e s' ys => exact hr.1.data hR hall
   | pin v e s' ys => exact hr.1.1.data hR hall
  ·obtain ⟨q, hq, rfl⟩ := List.mem_map.1 hr
   rw [List.length_map]; exact e2 q hq
 exact hin.data (fun _ _ h => h) hall
theorem lendD_rep {g : Nat → Value} {a : Act} {w : World} (r : Rep n cx g st a w) {R' : Addr → Value → Prop} (hR : ∀ a v, Rd cx.z st.h g w a v → R' a v) (hall : ∀ a v, w.cell? a = some v → R' a v) {c : V} {d : D} {m : Value} (hd : lendD st.h c = some d) (h : VRep (Rd cx.z st.h g w) (gvOf st.h g) st.x c m) : DRep R' d m := by
 cases h with
 | val v hv => cases hd; exact .val _ hv
 | sl sz xs m h => cases hd; exact h.mono hR
 | ref id m h1 h0 h2 =>
  simp only [lendD] at hd
  split at hd
  ·rename_i t sz xs hl
   obtain rfl := Option.some.inj hd
   obtain ⟨u, hu, hu1, hdata⟩ := own_data r hl
   rw [h2 u hu, hu1]
   exact hdata _ hR (fun a v b _ _ hc => hall a v hc)
  ·rename_i t sz rows hl
   obtain rfl := Option.some.inj hd
   obtain ⟨u, hu, hdata⟩ := nest_data r hl
   rw [h2 u hu]
   exact hdata _ hR hall
  ·cases hd
 | _ => cases hd
theorem lendDs_get (h : Heap) (cs : List V) : ∀ (j : Nat) (d : D), (lendDs h cs)[j]? = some d → ∃ c, cs[j]? = some c ∧ lendD h c = some d := by
 induction cs with
 | nil => intro j d hd; simp [lendDs] at hd
 | cons c cs ih =>
  intro j d hd
  simp only [lendDs] at hd
  split at hd
  ·rename_i d' hd'
   cases j with
   | zero => simp at hd; subst hd; exact ⟨c, rfl, hd'⟩
   | succ j => simpa using ih j d (by simpa using hd)
  ·simp at hd
theorem VRep.lend {g : Nat → Value} {a : Act} {w : World} (r : Rep n cx g st a w) {v : V} {m : Value} (h : VRep (Rd cx.z st.h g w) (gvOf st.h g) st.x v m) : VRep (Rd (fun _ => False) [] g w) (gvOf [] g) 0 (v.lend st.h) m := by
 have hR : ∀ a v, Rd cx.z st.h g w a v → Rd (fun _ => False) [] g w a v := fun a v h => ⟨fun h => h, fun ⟨_, _, h, _⟩ => by simp [gvOf, lk] at h, h.cell⟩
 induction h with
 | val v h => exact .val v h
 | sl sz xs m h => exact .sl sz xs m (h.mono hR)
 | agg cs ms h1 _ ih =>
  refine .agg _ ms (by rw [lendL_length]; exact h1) (fun i c m hc hm => ?_)
  rw [lendL_get] at hc
  cases hci : cs[i]? with
  | none => rw [hci] at hc; cases hc
  | some c' => rw [hci] at hc; obtain rfl := Option.some.inj hc; exact ih i c' m hci hm
 | tup cs ms h1 _ ih =>
  refine .tup _ ms (by rw [lendL_length]; exact h1) (fun i c m hc hm => ?_)
  rw [lendL_get] at hc
  cases hci : cs[i]? with
  | none => rw [hci] at hc; cases hc
  | some c' => rw [hci] at hc; obtain rfl := Option.some.inj hc; exact ih i c' m hci hm
 | fn f cs ms h1 _ ih =>
  refine .fn f _ ms (by rw [lendL_length]; exact h1) (fun i c m hc hm => ?_)
  rw [lendL_get] at hc
  cases hci : cs[i]? with
  | none => rw [hci] at hc; cases hc
  | some c' => rw [hci] at hc; obtain rfl := Option.some.inj hc; exact ih i c' m hci hm
 | el cs ad h => exact .el cs ad (fun j d hj => let ⟨m, hm, hd⟩ := h j d hj; ⟨m, hR _ _ hm, hd.mono hR⟩)
 | ref id m h1 h0 h2 =>
  simp only [V.lend]
  split
  ·rename_i t sz xs hl
   obtain ⟨u, hu, hu1, hdata⟩ := own_data r hl
   rw [h2 u hu, hu1]
   exact .sl _ _ _ (hdata _ hR (fun a v b _ _ hc => ⟨fun h => h, fun ⟨_, _, h, _⟩ => by simp [gvOf, lk] at h, hc⟩))
  ·rename_i t sz rows hl
   obtain ⟨u, hu, hdata⟩ := nest_data r hl
   rw [h2 u hu]
   exact .sl _ _ _ (hdata _ hR (fun a v hc => ⟨fun h => h, fun ⟨_, _, h, _⟩ => by simp [gvOf, lk] at h, hc⟩))
  ·exact .junk _
 | ptr id off m h1 h0 h2 =>
  simp only [V.lend]
  split
  ·rename_i t cs hl
   obtain ⟨b, ms, hgv, hb, hsz, h1c, hrep⟩ := r.box hl
   rw [h2 b hgv]
   refine .el _ _ (fun j d hj => ?_)
   obtain ⟨c, hc, hd⟩ := lendDs_get _ _ j d hj
   rw [List.getElem?_drop] at hc
   have hlt : off + j < ms.size := by rw [hsz]; exact (List.getElem?_eq_some_iff.1 hc).1
   have hm : ms[off + j]? = some ms[off + j] := Array.getElem?_eq_getElem hlt
   have hadd : (⟨b, off, none⟩ : Addr).add j = ⟨b, off + j, none⟩ := by unfold Addr.add; split <;> simp_all
   refine ⟨ms[off + j], ?_, lendD_rep r hR (fun a v hc => ⟨fun h => h, fun ⟨_, _, h, _⟩ => by simp [gvOf, lk] at h, hc⟩) hd (hrep _ c _ hc hm)⟩
   refine ⟨fun h => h, fun ⟨_, _, h, _⟩ => by simp [gvOf, lk] at h, ?_⟩
   rw [hadd]
   simp [World.cell?, hb, hm]
  ·exact .junk _
 | ael => exact .junk _
 | junk m => exact .junk m
theorem HRep.kept {g : Nat → Value} {w w' : World} (hh : HRep cx g st.h st.x w) (hs : w.heap.size ≤ w'.heap.size) (os : w'.os = w.os) (tape : w'.tape = w.tape) (out : w'.output = w.output) (hk : ∀ k, k < w.heap.size → w'.heap[k]? = w.heap[k]?) : HRep cx g st.h st.x w' ∧ Next st.h g st.x w st.h g st.x w' ∧ Touch [] st.h g st.x w st.h g w' := by
 have nx : Next st.h g st.x w st.h g st.x w' := ⟨⟨hs, fun _ _ h => h, fun k hk' _ => hk k hk'⟩, fun _ _ _ h => h, Nat.le_refl _⟩
 refine ⟨hh.upd nx os tape out (fun id v h => ⟨(hh.obj id v h).1, .inl ⟨h, rfl, fun k hk' => hk k (hh.mine id v k h hk').1⟩⟩) (fun id v h => .inl h), nx, fun k h _ => hk k h, fun id v k hx hv hb => ?_⟩
 exact absurd (hh.obj _ _ hv).1 (by omega)
theorem VOp.pure {x : Operand} {xs : Array Operand} {ts : Array TypeId} {f : FuncId} {fn : Func} {vs us caps : List V} {r : V} (ho : o.op = .call { callee := .value x, args := xs, argTypes := ts })
  (hf : P.funcs[f]? = some fn) (hb : fn.body.isSome = true) (hnm : (fn.name == "runtime.NumGoroutine") = false)
  (hx : ev st.s x = some (.fn f caps)) (hv : evs st.s xs.toList = some vs) (hu : V.lendL st.h (vs ++ caps) = us) (hr : r.dry = true) (hc : VCalls P f us [] 0 (Gives r)) :
  VOp P n cx [] o (fun v' h' x' => v' = r ∧ h' = st.h ∧ x' = st.x) E st := fun g a w rr Kc Qc hk hp => by
 have h1 := ev_rep rr hx
 obtain ⟨e1, e2⟩ := evs_get hv
 generalize he : a.eval x = mm at h1
 cases h1 with
 | fn _ _ mc h2 h3 =>
  subst hu
  have hsz : (xs.map a.eval ++ mc).size = (V.lendL st.h (vs ++ caps)).length := by
   rw [lendL_length, Array.size_append, Array.size_map, h2, List.length_append]
   have : xs.size = vs.length := by rw [← e1]; simp
   omega
  have hargs : ∀ (i : Nat) (v : V) (m : Value), (V.lendL st.h (vs ++ caps))[i]? = some v → (xs.map a.eval ++ mc)[i]? = some m → VRep (Rd (fun _ => False) [] g w) (gvOf [] g) 0 v m := by
   intro i v m hv' hm
   rw [lendL_get] at hv'
   cases hvi : (vs ++ caps)[i]? with
   | none => rw [hvi] at hv'; cases hv'
   | some v' =>
    rw [hvi] at hv'
    obtain rfl := Option.some.inj hv'
    refine VRep.lend rr ?_
    rw [List.getElem?_append] at hvi
    rw [Array.getElem?_append] at hm
    have hxl : (xs.map a.eval).size = vs.length := by rw [Array.size_map, ← e1]; simp
    rw [hxl] at hm
    split at hvi
    ·rename_i hi
     rw [if_pos hi, Array.getElem?_map] at hm
     cases hxi : xs[i]? with
     | none => rw [hxi] at hm; cases hm
     | some y =>
      rw [hxi] at hm
      obtain rfl := Option.some.inj hm
      exact ev_rep rr (e2 i y _ (by simpa using hxi) hvi)
    ·rename_i hi
     rw [if_neg hi] at hm
     exact h3 _ _ _ hvi hm
  have hrep : HRep (cxOf (fun _ => False) g [] 0 w) g [] 0 w := ⟨rfl, rfl, rfl, Nat.le_refl _, fun _ _ _ => rfl, fun _ _ h => by simp [gvOf, lk] at h, fun _ _ _ _ _ h => by simp [gvOf, lk] at h, fun _ _ _ h => by simp [gvOf, lk] at h, fun _ _ _ h => h, Nat.le_refl _, fun _ h => h.elim⟩
  have hcall := hc (fun _ => False) g w (xs.map a.eval ++ mc) hrep hsz hargs
  have hrun : (execOp a.eval o).run P w = .ok (.enter f (xs.map a.eval ++ mc)) w := by
   unfold execOp; rw [ho]
   have hbn : fn.body.isNone = false := by cases hbb : fn.body with
    | none => rw [hbb] at hb; cases hb
    | some _ => rfl
   have hnm' : ¬ (fn.name = "runtime.NumGoroutine") := by simpa using hnm
   simp [resolve, he, Deferred.ofValue, invoke, callFunc, hf, hbn, hnm']
   intro hh; rw [hh] at hb; cases hb
  unfold Oper.wp
  rw [hrun, Oper.upon_enter]
  refine hcall.mono ?_
  rintro e w' ⟨g', h', x', out, hh, hout, rfl, rfl, rfl⟩
  cases e with
  | returned m =>
   obtain ⟨k1, k2, k3⟩ := HRep.kept rr.h hh.size hh.os hh.tape hh.output (fun k hk' => hh.old k hk' (fun ⟨_, _, h, _⟩ => by simp [cxOf, gvOf, lk] at h))
   exact hk g r m _ _ w' ⟨rfl, rfl, rfl⟩ k1 (VRep.dry hout hr) k2 k3
  | panicked c => exact hout.elim
  | outgrown => exact hout.elim
end
end Go.Proofs.Ytfjfbapiheehaaa.V
namespace Go.Proofs.Ytfjfbapiheehaaa.V
open Go Go.RowKit Go.ChangeShapes Go.WideShapes
section
variable {H : Type} {enc : TypeId × Value → H} {P : Program} {w : World} {base : Nat} {spare : Nat → Bool} {held : Bool}
def OpensD (enc : TypeId × Value → H) (P : Program) (w : World) (base : Nat) (spare : Nat → Bool) (held : Bool) {α : Type} (f : α → List D) (t : TypeId) (good : α → Prop) : Prop :=
 ∀ fuel cs x, DataW.trod enc P w base spare held fuel t cs = some x → (∀ n ∈ x.1.weights P t, n ≤ reachBytes) → ∃ a, rowRep (fun a v => w.cell? a = some v) (f a) cs ∧ (f a).length = P.cellsOf t ∧ good a
theorem row_one {R : Addr → Value → Prop} {d : D} {m : Value} (h : DRep R d m) : rowRep R [d] [m] := ⟨rfl, fun i e u he hu => by
 cases i with
 | zero => simp at he hu; subst he; subst hu; exact h
 | succ i => simp at he⟩
theorem row_append {R : Addr → Value → Prop} {ds es : List D} {ms ns : List Value} (h : rowRep R ds ms) (k : rowRep R es ns) : rowRep R (ds ++ es) (ms ++ ns) := ⟨by rw [List.length_append, List.length_append, h.1, k.1], fun i e u he hu => by
 rw [List.getElem?_append] at he hu
 rw [h.1] at hu
 split at he
 ·rename_i hi; rw [if_pos hi] at hu; exact h.2 i e u he hu
 ·rename_i hi; rw [if_neg hi] at hu; exact k.2 _ e u he hu⟩
theorem opensD_int {k : IntKind} {t : TypeId} (ht : P.underlying t = some (.int k)) (hc : P.cellsOf t = 1) : OpensD enc P w base spare held (fun n : Int => [.val (.int k n)]) t (fun n => (Lit.int k n).wf = true) := fun fuel cs x h _ => by
 obtain ⟨n, rfl, _, hw⟩ := DataW.trod_int ht h
 exact ⟨n, row_one (.val _ rfl), hc.symm, hw⟩
theorem opensD_string {t : TypeId} (ht : P.underlying t = some .string) (hc : P.cellsOf t = 1) : OpensD enc P w base spare held (fun s : ByteArray => [.val (.string s)]) t (fun s => s.size ≤ reachBytes) := fun fuel cs x h hw => by
 obtain ⟨s, rfl, rfl, hs⟩ := DataW.trod_string ht h
 refine ⟨s, row_one (.val _ rfl), hc.symm, ?_⟩
 have := hw s.data.toList.length (by simp [DataW.weights])
 simpa using this
theorem weights_all {e : TypeId} {ds : List (DataW H)} {d : DataW H} (hd : d ∈ ds) {n : Nat} (hn : n ∈ d.weights P e) : n ∈ DataW.weightsAll P e ds := by
 induction ds with
 | nil => cases hd
 | cons d' ds ih =>
  simp only [DataW.weightsAll, List.mem_append]
  rcases List.mem_cons.1 hd with rfl | h
  ·exact .inl hn
  ·exact .inr (ih h)
theorem opensD_slice {α : Type} {f : α → List D} {t e : TypeId} {good : α → Prop} {sz b : Nat} (ht : P.underlying t = some (.slice e)) (hc : P.cellsOf t = 1) (hsz : P.cellsOf e = sz) (hb : P.bytesOf e = b) (hb0 : 0 < b) (h : OpensD enc P w base spare held f e good) :
  OpensD enc P w base spare held (fun xs : List α => [.sl sz (xs.map f)]) t (fun xs => (∀ a ∈ xs, good a) ∧ xs.length * b ≤ reachBytes) := fun fuel cs x hx hw => by
 rcases DataW.trod_slice ht hx with ⟨rfl, _⟩ | ⟨a, len, cap, elems, rest, n, _, rfl, hxe, hbb, hl, hm, hlen, hel, _, _⟩
 ·exact ⟨[], row_one (.nil _ _ _), hc.symm, (fun a ha => by cases ha), by simp⟩
 ·have hwt : ∀ n ∈ (DataW.slice (elems.map (·.1)) (rest.map (·.1))).weights P t, n ≤ reachBytes := by rw [hxe] at hw; exact hw
  have hbig : len * b ≤ reachBytes := by
   have := hwt ((elems.length + rest.length) * P.bytesOf e) (by simp [DataW.weights, ht])
   rw [hlen, hb] at this
   exact Nat.le_trans (Nat.mul_le_mul_right _ (Nat.le_add_right _ _)) this
  have hget : ∀ i : Fin len, ∃ p, good p ∧ (f p).length = sz ∧ ∃ c, rowRep (fun a v => w.cell? a = some v) (f p) c ∧ ∀ j u, c[j]? = some u → w.cell? (a.add (i.val * sz + j)) = some u := by
   intro i
   have h1 := hel i.val i.isLt
   have hi : i.val < elems.length := by rw [hlen]; exact i.isLt
   rw [List.getElem?_eq_getElem hi, Option.bind_eq_some_iff] at h1
   obtain ⟨c, hc', htr⟩ := h1
   obtain ⟨p, hk, hkl, hg⟩ := h _ _ _ htr (fun n hn => hwt n (by
    simp only [DataW.weights, ht, List.mem_cons, List.mem_append]
    right; left
    exact weights_all (List.mem_map.2 ⟨_, List.getElem_mem hi, rfl⟩) hn))
   have hcs := World.cells?_some hc'
   refine ⟨p, hg, hkl.trans hsz, c, hk, fun j u hj => ?_⟩
   have hlc := hk.1
   have hj' : j < sz := by
    rcases Nat.lt_or_ge j sz with h2 | h2
    ·exact h2
    ·rw [List.getElem?_eq_none (by omega)] at hj; cases hj
   have h3 := hcs.2.2 j (by rw [hsz]; exact hj')
   rw [Go.Proofs.YtfjfbapiheehaaaW.PrintWords.add_add, hsz] at h3
   rw [h3, hj]
  have key : ∀ (i j : Nat) (d : D), ((((List.ofFn fun i => (hget i).choose).map f)[i]?).bind (·[j]?)) = some d → ∃ u, w.cell? (a.add (i * sz + j)) = some u ∧ DRep (fun a v => w.cell? a = some v) d u := by
   intro i j d hd
   rw [List.getElem?_map, List.getElem?_ofFn] at hd
   split at hd
   ·rename_i hlt
    simp only [Option.map_some, Option.bind_some] at hd
    obtain ⟨h1, h2, c, h3, h4⟩ := (hget ⟨i, hlt⟩).choose_spec
    have hj : j < c.length := by rw [h3.1]; exact (List.getElem?_eq_some_iff.1 hd).1
    exact ⟨c[j], h4 j _ (List.getElem?_eq_getElem hj), h3.2 j d _ hd (List.getElem?_eq_getElem hj)⟩
   ·simp at hd
  obtain ⟨ys, hys⟩ : ∃ ys, ys = List.ofFn fun i => (hget i).choose := ⟨_, rfl⟩
  rw [← hys] at key
  have hlen' : ys.length = len := by rw [hys, List.length_ofFn]
  have hg : ∀ p ∈ ys, (f p).length = sz ∧ good p := fun p hp => by
   rw [hys] at hp
   obtain ⟨i, rfl⟩ := List.mem_ofFn.1 hp
   exact ⟨(hget i).choose_spec.2.1, (hget i).choose_spec.1⟩
  have hml : (ys.map f).length = len := by rw [List.length_map, hlen']
  refine ⟨ys, row_one ?_, hc.symm, fun p hp => (hg p hp).2, by rw [hlen']; exact hbig⟩
  rw [← hml]
  refine .sl sz _ a cap (fun i j => (w.cell? (a.add (i * sz + j))).getD undef) (by rw [hml]; exact hl) ?_ ?_ ?_ ?_
  ·rw [hml]
   have : reachBytes < 140737488355328 := reachBytes_lt
   have h2 : len * 1 ≤ len * b := Nat.mul_le_mul_left _ hb0
   unfold most; omega
  ·intro row hr
   obtain ⟨p, hp, rfl⟩ := List.mem_map.1 hr
   exact (hg p hp).1
  ·intro i j d hd
   obtain ⟨u, hu, _⟩ := key i j d hd
   rw [hu]; rfl
  ·intro i j d hd
   obtain ⟨u, hu, hr⟩ := key i j d hd
   rw [hu]; exact hr
def OpensF (enc : TypeId × Value → H) (P : Program) (w : World) (base : Nat) (spare : Nat → Bool) (held : Bool) {α : Type} (f : α → List D) (fs : List Field) (off len : Nat) (good : α → Prop) : Prop :=
 ∀ (n : Nat) (cs : List Value) (xs : List (DataW H × List MemPlace)), xs.length = fs.length → (∀ (i : Nat) (fd : Field), fs[i]? = some fd → DataW.trod enc P w base spare held n fd.type ((cs.drop fd.offset).take (P.cellsOf fd.type)) = xs[i]?) →
  (∀ n ∈ DataW.weightsEach P (fs.map (·.type)) (xs.map (·.1)), n ≤ reachBytes) → ∃ a, rowRep (fun a v => w.cell? a = some v) (f a) ((cs.drop off).take len) ∧ (f a).length = len ∧ good a
theorem opensF_nil {off : Nat} : OpensF enc P w base spare held (fun _ : Unit => []) [] off 0 (fun _ => True) := fun n cs xs _ _ _ => ⟨(), ⟨by simp, fun i d m h => by simp at h⟩, rfl, trivial⟩
theorem opensF_cons {α β : Type} {f : α → List D} {f' : β → List D} {fd : Field} {fs : List Field} {off m len : Nat} {good : α → Prop} {good' : β → Prop} (ho : fd.offset = off) (hm : P.cellsOf fd.type = m) (h : OpensD enc P w base spare held f fd.type good) (h' : OpensF enc P w base spare held f' fs (off + m) len good') :
  OpensF enc P w base spare held (fun p : α × β => f p.1 ++ f' p.2) (fd :: fs) off (m + len) (fun p => good p.1 ∧ good' p.2) := fun n cs xs hl hx hw => by
 cases xs with
 | nil => cases hl
 | cons x xs =>
  have h0 := hx 0 fd rfl
  simp only [List.getElem?_cons_zero] at h0
  simp only [List.map_cons, DataW.weightsEach, List.mem_append] at hw
  obtain ⟨a, ha, hal, hg⟩ := h _ _ _ h0 (fun n hn => hw n (.inl hn))
  obtain ⟨b, hb, hbl, hg'⟩ := h' n cs xs (by simpa using hl) (fun i fd' hf => by have := hx (i + 1) fd' hf; simpa using this) (fun n hn => hw n (.inr hn))
  refine ⟨(a, b), ?_, by simp [hal, hbl, hm], hg, hg'⟩
  rw [List.take_add, List.drop_drop]
  rw [ho, hm] at ha
  exact row_append ha hb
theorem opensD_struct {α β : Type} {f : α → List D} {g : β → α} {t : TypeId} {fs : Array Field} {good : α → Prop} {len : Nat} (mk : α → β) (hmk : ∀ a, g (mk a) = a) (ht : P.underlying t = some (.struct fs)) (hc : P.cellsOf t = len) (h : OpensF enc P w base spare held f fs.toList 0 len good) :
  OpensD enc P w base spare held (fun b => f (g b)) t (fun b => good (g b)) := fun fuel cs x hx hw => by
 obtain ⟨xs, n, _, rfl, hl, hxl, hall⟩ := DataW.trod_struct ht hx
 simp only [DataW.weights, ht] at hw
 obtain ⟨a, ha, hal, hg⟩ := h n cs xs (by rw [hxl]; simp) (fun i fd hf => hall i fd (by simpa using hf)) hw
 rw [List.drop_zero, List.take_of_length_le (by rw [hl, hc]; exact Nat.le_refl _)] at ha
 refine ⟨mk a, ?_, ?_, ?_⟩
 ·simp only [hmk]; exact ha
 ·simp only [hmk]; rw [hal, hc]
 ·simp only [hmk]; exact hg
end
end Go.Proofs.Ytfjfbapiheehaaa.V
namespace Go.Proofs.Ytfjfbapiheehaaa.V
open Go Go.RowKit
def flatOk (P : Program) : List TypeDesc → List Field → Nat → Bool
 | [], [], _ => true
 | d :: ds, f :: fs, i => Nat.beq f.offset i && decide (f.name ≠ "_") && (match P.underlying f.type, d with
  | some (.int k), .int k' => decide (k = k')
  | some .bool, .bool => true
  | some .string, .string => true
  | _, _ => false) && flatOk P ds fs (i + 1)
 | _, _, _ => false
class EQ (P : Program) (t : TypeId) (ds : outParam (List TypeDesc)) : Prop where
 ex : ∃ fs, P.underlying t = some (.struct fs) ∧ flatOk P ds fs.toList 0 = true ∧ P.stoodInHeld t = false ∧ P.eqGuardType P.depth t = false
theorem EQ.mk' {P : Program} {t : TypeId} {ds : List TypeDesc} {fs : Array Field} {s b : Nat} {z : Value} (h : TI P t (.struct fs) s b z) (h1 : flatOk P ds fs.toList 0 = true) (h2 : P.stoodInHeld t = false) (h3 : P.eqGuardType P.depth t = false) : EQ P t ds := ⟨fs, h.und, h1, h2, h3⟩
def eqRow : List TypeDesc → List V → List V → Option Bool
 | [], [], [] => some true
 | .int _ :: ds, .val (.int k a) :: xs, .val (.int k' b) :: ys => match decide (k = k'), eqRow ds xs ys with
  | true, some r => some (decide (a = b) && r)
  | _, _ => none
 | .bool :: ds, .val (.bool a) :: xs, .val (.bool b) :: ys => match eqRow ds xs ys with
  | some r => some ((a == b) && r)
  | _ => none
 | .string :: ds, .val (.string a) :: xs, .val (.string b) :: ys => match eqRow ds xs ys with
  | some r => some (decide (a = b) && r)
  | _ => none
 | _, _, _ => none
section
variable {P : Program} {n : Nat} {cx : Cx} {st : St} {o : Oper}
theorem run_part1 {t : TypeId} {d : TypeDesc} (h : P.underlying t = some d) (hd : aggT d = false) {cs : Array Value} {off : Nat} {v : Value} (hv : cs[off]? = some v) (w : World) : (part t cs off).run P w = .ok v w := by
 unfold part
 rw [Sem.run_bind, run_isAgg h, hd]
 simp [Result.andThen, hv]
theorem run_eqFields {R : Addr → Value → Prop} {gv : Nat → Option Value} {x d : Nat} {w : World} {ms ns : Array Value} : ∀ {ds : List TypeDesc} {xs ys : List V} {fs : List Field} {i : Nat} {r : Bool}, flatOk P ds fs i = true → eqRow ds xs ys = some r →
  (∀ (j : Nat) (c : V), xs[j]? = some c → ∃ m, ms[i + j]? = some m ∧ VRep R gv x c m) → (∀ (j : Nat) (c : V), ys[j]? = some c → ∃ m, ns[i + j]? = some m ∧ VRep R gv x c m) →
  (Op.eqFields (d + 1) ms ns fs).run P w = .ok r w := by
 intro ds
 induction ds with
 | nil =>
  intro xs ys fs i r h1 h2 h3 h4
  cases fs with
  | cons f fs => simp [flatOk] at h1
  | nil =>
   cases xs <;> cases ys <;> simp [eqRow] at h2
   subst h2
   simp [Op.eqFields]
 | cons t ds ih =>
  intro xs ys fs i r h1 h2 h3 h4
  cases fs with
  | nil => simp [flatOk] at h1
  | cons f fs =>
   simp only [flatOk, Bool.and_eq_true, decide_eq_true_eq] at h1
   obtain ⟨⟨⟨ho, hname⟩, hk⟩, hrest⟩ := h1
   have ho := Nat.eq_of_beq_eq_true ho
   have key : ∀ {u v : Value} {xs' ys' : List V} {q r' : Bool} {D : TypeDesc}, xs = .val u :: xs' → ys = .val v :: ys' → P.underlying f.type = some D → aggT D = false → (∀ w, (Op.equalIn (d + 1) f.type u v).run P w = .ok q w) → eqRow ds xs' ys' = some r' →
     (Op.eqFields (d + 1) ms ns (f :: fs)).run P w = .ok (q && r') w := by
    intro u v xs' ys' q r' D hxs hys hu hD heq hr
    subst hxs; subst hys
    obtain ⟨m, hm, hvm⟩ := h3 0 _ rfl
    obtain ⟨m', hm', hvm'⟩ := h4 0 _ rfl
    have e1 := hvm.val_inv
    have e2 := hvm'.val_inv
    subst e1; subst e2
    have ih' := ih (i := i + 1) hrest hr (fun j c hj => by have := h3 (j + 1) c hj; rw [show i + 1 + j = i + (j + 1) from by omega]; exact this) (fun j c hj => by have := h4 (j + 1) c hj; rw [show i + 1 + j = i + (j + 1) from by omega]; exact this)
    simp only [Op.eqFields]
    rw [if_pos hname, Sem.run_bind, run_part1 hu hD (by rw [ho]; exact hm)]
    simp only [Result.andThen_ok]
    rw [Sem.run_bind, run_part1 hu hD (by rw [ho]; exact hm')]
    simp only [Result.andThen_ok]
    rw [Sem.run_bind, heq]
    simp only [Result.andThen_ok]
    cases q
    ·simp
    ·simp only [Bool.not_true, Bool.false_eq_true, if_false, Bool.true_and]; exact ih'
   cases hu : P.underlying f.type with
   | none => rw [hu] at hk; simp at hk
   | some D =>
    rw [hu] at hk
    cases t with
    | int k =>
     cases D <;> simp at hk
     subst hk
     cases xs with
     | nil => simp [eqRow] at h2
     | cons c xs =>
      cases ys with
      | nil => simp [eqRow] at h2
      | cons c' ys =>
       cases c <;> try (simp [eqRow] at h2; done)
       cases c' <;> try (simp [eqRow] at h2; done)
       rename_i u v
       cases u <;> try (simp [eqRow] at h2; done)
       cases v <;> try (simp [eqRow] at h2; done)
       rename_i k1 a k2 b
       simp only [eqRow] at h2
       by_cases hkk : k1 = k2
       ·subst hkk
        simp only [decide_true] at h2
        cases hr : eqRow ds xs ys with
        | none => rw [hr] at h2; simp at h2
        | some r' =>
         rw [hr] at h2
         obtain rfl := Option.some.inj h2
         exact key rfl rfl hu rfl (fun w => by
          rw [run_equalIn_int w d f.type k1 _ a b hu]
          congr 1) hr
       ·simp [hkk] at h2
    | bool =>
     cases D <;> simp at hk
     cases xs with
     | nil => simp [eqRow] at h2
     | cons c xs =>
      cases ys with
      | nil => simp [eqRow] at h2
      | cons c' ys =>
       cases c <;> try (simp [eqRow] at h2; done)
       cases c' <;> try (simp [eqRow] at h2; done)
       rename_i u v
       cases u <;> try (simp [eqRow] at h2; done)
       cases v <;> try (simp [eqRow] at h2; done)
       simp only [eqRow] at h2
       cases hr : eqRow ds xs ys with
       | none => rw [hr] at h2; simp at h2
       | some r' =>
        rw [hr] at h2
        obtain rfl := Option.some.inj h2
        exact key rfl rfl hu rfl (fun w => run_equalIn_bool w d f.type _ _ hu) hr
    | string =>
     cases D <;> simp at hk
     cases xs with
     | nil => simp [eqRow] at h2
     | cons c xs =>
      cases ys with
      | nil => simp [eqRow] at h2
      | cons c' ys =>
       cases c <;> try (simp [eqRow] at h2; done)
       cases c' <;> try (simp [eqRow] at h2; done)
       rename_i u v
       cases u <;> try (simp [eqRow] at h2; done)
       cases v <;> try (simp [eqRow] at h2; done)
       simp only [eqRow] at h2
       cases hr : eqRow ds xs ys with
       | none => rw [hr] at h2; simp at h2
       | some r' =>
        rw [hr] at h2
        obtain rfl := Option.some.inj h2
        exact key rfl rfl hu rfl (fun w => by rw [run_equalIn_string w d f.type _ _ hu, str_eq]) hr
    | _ => simp at hk
theorem run_eqA {g : Nat → Value} {a : Act} {w : World} (r : Rep n cx g st a w) {t : TypeId} {x y : Operand} {xs ys : List V} {ds : List TypeDesc} {b : Bool} (hx : ev st.s x = some (.agg xs)) (hy : ev st.s y = some (.agg ys)) [q : EQ P t ds] (he : eqRow ds xs ys = some b) :
  ∃ ms ns, a.eval x = .agg ms ∧ a.eval y = .agg ns ∧ P.eqGuardType P.depth t = false ∧ ∀ w', (Op.equalIn 10000 t (.agg ms) (.agg ns)).run P w' = .ok b w' := by
 obtain ⟨fs, h1, h2, h3, h4⟩ := q.ex
 have hv := ev_rep r hx
 have hv' := ev_rep r hy
 generalize a.eval x = m at hv
 generalize a.eval y = m' at hv'
 cases hv with
 | agg _ ms e1 e2 =>
  cases hv' with
  | agg _ ns e1' e2' =>
   refine ⟨ms, ns, rfl, rfl, h4, fun w' => ?_⟩
   have hfo : P.fieldsOf t = fs := by unfold Program.fieldsOf; rw [h1]
   rw [run_equalIn_struct w' 9999 t ms ns (by rw [hfo]; exact h1) h3, hfo]
   refine run_eqFields (R := Rd cx.z st.h g w) (gv := gvOf st.h g) (x := st.x) (d := 9998) (i := 0) h2 he (fun j c hj => ?_) (fun j c hj => ?_)
   ·have hlt : j < ms.size := by rw [e1]; exact (List.getElem?_eq_some_iff.1 hj).1
    exact ⟨ms[j], by rw [Nat.zero_add]; exact Array.getElem?_eq_getElem hlt, e2 j c _ hj (Array.getElem?_eq_getElem hlt)⟩
   ·have hlt : j < ns.size := by rw [e1']; exact (List.getElem?_eq_some_iff.1 hj).1
    exact ⟨ns[j], by rw [Nat.zero_add]; exact Array.getElem?_eq_getElem hlt, e2' j c _ hj (Array.getElem?_eq_getElem hlt)⟩
theorem VPure.eqA {t t' : TypeId} {x y : Operand} {xs ys : List V} {ds : List TypeDesc} {b : Bool} (ho : o.op = .binOp .eql t x y t') (hx : ev st.s x = some (.agg xs)) (hy : ev st.s y = some (.agg ys)) [q : EQ P t ds] (he : eqRow ds xs ys = some b) : VPure P n cx o st (.val (.bool b)) := fun g a w r => by
 obtain ⟨ms, ns, e1, e2, hg, h⟩ := run_eqA (q := q) r hx hy he
 refine ⟨.bool b, .val _ rfl, fun w' => ?_⟩
 unfold execOp; rw [ho]; simp only [e1, e2]
 simp only [Sem.run_bind]
 rw [run_eqGuard_agg w' .eql t x y ms ns hg]
 simp only [Result.andThen_ok]
 rw [run_eql_struct, h]
 rfl
theorem VPure.neA {t t' : TypeId} {x y : Operand} {xs ys : List V} {ds : List TypeDesc} {b : Bool} (ho : o.op = .binOp .neq t x y t') (hx : ev st.s x = some (.agg xs)) (hy : ev st.s y = some (.agg ys)) [q : EQ P t ds] (he : eqRow ds xs ys = some b) : VPure P n cx o st (.val (.bool (!b))) := fun g a w r => by
 obtain ⟨ms, ns, e1, e2, hg, h⟩ := run_eqA (q := q) r hx hy he
 refine ⟨.bool (!b), .val _ rfl, fun w' => ?_⟩
 unfold execOp; rw [ho]; simp only [e1, e2]
 simp only [Sem.run_bind]
 rw [run_eqGuard_agg w' .neq t x y ms ns hg]
 simp only [Result.andThen_ok]
 rw [run_neq_struct, h]
 rfl
end
end Go.Proofs.Ytfjfbapiheehaaa.V
namespace Go.Proofs.Ytfjfbapiheehaaa.V
open Go Go.RowKit Go.Proofs.YtfjfbapiheehaaaW.PrintWords
theorem to_C {α : Type} {d : Kd α} {f : α → List D} {R : Addr → Value → Prop} {w : World} {xs : List α} {m : Value} (hR : ∀ a v, R a v → w.cell? a = some v) (hl : ∀ x ∈ xs, (f x).length = d.sz)
  (hK : ∀ x ∈ xs, ∀ cs : List Value, rowRep R (f x) cs → d.K w x cs) (h : DRep R (.sl d.sz (xs.map f)) m) : ∃ A c, m = .slice A xs.length c ∧ xs.length ≤ c ∧ d.C w A xs.length xs := by
 generalize he : xs.map f = ys at h
 cases h with
 | nil sz A c =>
  have : xs = [] := by simpa using he
  subst this
  exact ⟨A, c, rfl, Nat.zero_le _, rfl, by simp, fun h => by simp at h⟩
 | sl sz ys ad c g h1 h2 h3 h4 h5 =>
  subst he
  rw [List.length_map] at h1 h2
  refine ⟨some ad, c, by rw [List.length_map], h1, rfl, by unfold most at h2; omega, fun _ => ⟨ad, rfl, fun j p hj => ?_⟩⟩
  have hp : p ∈ xs := List.mem_of_getElem? hj
  have hrow : ∀ (i : Nat) (e : D), (f p)[i]? = some e → R (ad.add (j * d.sz + i)) (g j i) ∧ DRep R e (g j i) := fun i e hi => by
   have : (((xs.map f)[j]?).bind (·[i]?)) = some e := by rw [List.getElem?_map, hj]; exact hi
   exact ⟨h4 j i e this, h5 j i e this⟩
  refine ⟨(List.range d.sz).map (g j), by simp, hK p hp _ ⟨by simp [hl p hp], fun i e u he hu => ?_⟩, fun i u hu => ?_⟩
  ·rw [List.getElem?_map] at hu
   cases hr : (List.range d.sz)[i]? with
   | none => rw [hr] at hu; cases hu
   | some q =>
    rw [hr] at hu
    obtain ⟨hlt, rfl⟩ := List.getElem?_eq_some_iff.1 hr
    rw [List.getElem_range] at hu
    obtain rfl := Option.some.inj hu
    exact (hrow i e he).2
  ·rw [List.getElem?_map] at hu
   cases hr : (List.range d.sz)[i]? with
   | none => rw [hr] at hu; cases hu
   | some q =>
    rw [hr] at hu
    obtain ⟨hlt, rfl⟩ := List.getElem?_eq_some_iff.1 hr
    rw [List.getElem_range] at hu
    obtain rfl := Option.some.inj hu
    rw [List.length_range] at hlt
    exact hR _ _ (hrow i ((f p)[i]'(by rw [hl p hp]; exact hlt)) (List.getElem?_eq_getElem _)).1
theorem of_R {α : Type} {d : Kd α} {f : α → List D} {R : Addr → Value → Prop} {w : World} {base e : Nat} {ok : Nat → Prop} {xs : List α} {v : Value} (hR : ∀ a u, base ≤ a.block → w.cell? a = some u → R a u) (hl : ∀ x ∈ xs, (f x).length = d.sz)
  (hM : ∀ x ∈ xs, ∀ ok' cs, d.M w base ok' x cs → rowRep R (f x) cs) (hn : xs.length ≤ most) (h : d.R e w base ok v xs) : DRep R (.sl d.sz (xs.map f)) v := by
 obtain ⟨_, inner, ho, hr⟩ := h
 have ho' := ho
 rcases ho.2 with ⟨rfl, h0⟩ | ⟨bb, cap, cur, hv, hbase, hblk, hcap, _⟩
 ·rw [List.eq_nil_of_length_eq_zero h0]; exact .nil _ _ _
 ·subst hv
  have key : ∀ (i j : Nat) (c : D), (((xs.map f)[i]?).bind (·[j]?)) = some c → ∃ u, inner[i * d.sz + j]? = some u ∧ DRep R c u := by
   intro i j c hc
   rw [List.getElem?_map] at hc
   cases hxi : xs[i]? with
   | none => rw [hxi] at hc; simp at hc
   | some x =>
    rw [hxi] at hc
    have hc : (f x)[j]? = some c := hc
    have hx : x ∈ xs := List.mem_of_getElem? hxi
    have h1 := hM x hx _ _ (hr.2 i x hxi)
    have hj : j < d.sz := by rw [← hl x hx]; exact (List.getElem?_eq_some_iff.1 hc).1
    have hjl : j < ((inner.drop (i * d.sz)).take d.sz).length := by rw [h1.1]; exact (List.getElem?_eq_some_iff.1 hc).1
    refine ⟨((inner.drop (i * d.sz)).take d.sz)[j], ?_, h1.2 j c _ hc (List.getElem?_eq_getElem hjl)⟩
    rw [List.getElem_take, List.getElem_drop]
    exact List.getElem?_eq_getElem _
  rw [show xs.length = (xs.map f).length from by rw [List.length_map]]
  refine .sl d.sz _ ⟨bb, 0, none⟩ cap (fun i j => inner.getD (i * d.sz + j) undef) (by rw [List.length_map]; exact hcap) (by rw [List.length_map]; exact hn) ?_ (fun i j c hc => ?_) (fun i j c hc => ?_)
  ·intro row hrow
   obtain ⟨x, hx, rfl⟩ := List.mem_map.1 hrow
   exact hl x hx
  ·obtain ⟨u, hu, _⟩ := key i j c hc
   rw [List.getD_eq_getElem?_getD, hu]
   refine hR _ _ ?_ (ho'.cells (g := bb) rfl _ u hu)
   have : ((⟨bb, 0, none⟩ : Addr).add (i * d.sz + j)).block = bb := by unfold Addr.add; split <;> rfl
   rw [this]; exact hbase
  ·obtain ⟨u, hu, hd⟩ := key i j c hc
   rw [List.getD_eq_getElem?_getD, hu]; exact hd
theorem fresh_rd {z : Nat → Prop} {g : Nat → Value} {w w' : World} (hz : ∀ k, z k → k < w.heap.size) (a : Addr) (u : Value) (hb : w.heap.size ≤ a.block) (hc : w'.cell? a = some u) : Rd z [] g w' a u :=
 ⟨fun h => by have := hz _ h; omega, fun ⟨_, _, h, _⟩ => by simp [gvOf, lk] at h, hc⟩
theorem HRep.below {z : Nat → Prop} {g : Nat → Value} {w w' : World} (h : HRep (cxOf z g [] 0 w) g [] 0 w) (b : Below w.heap.size w w') : HRep (cxOf z g [] 0 w) g [] 0 w' :=
 ⟨b.os, b.tape, b.output, b.size, fun k hk _ => b.block k hk, fun _ _ h => by simp [gvOf, lk] at h, fun _ _ _ _ _ h => by simp [gvOf, lk] at h, fun _ _ _ h => by simp [gvOf, lk] at h, fun _ _ _ h => by simp [cxOf, gvOf, lk] at *, Nat.le_refl _, h.apz⟩
theorem VCalls.printed {P : Program} {f : FuncId} {args : List V} {v : Value} (hv : v.oneCell' = true) (h : ∀ (R : Addr → Value → Prop) (gv : Nat → Option Value) (w : World) (ms : Array Value), (∀ a u, R a u → w.cell? a = some u) → ms.size = args.length → (∀ (i : Nat) (v : V) (m : Value), args[i]? = some v → ms[i]? = some m → VRep R gv 0 v m) → Calls P f ms w fun e w' => e = .returned v ∧ Below w.heap.size w w') : VCalls P f args [] 0 (Gives (.val v)) := fun z g w ms h1 h2 h3 => by
 refine (h _ _ w ms (fun a u h => h.cell) h2 h3).mono ?_
 rintro e w' ⟨rfl, hb⟩
 exact ⟨g, [], 0, .ret (.val v), h1.below hb, .val _ hv, rfl, rfl, rfl⟩
theorem VCalls.law {P : Program} {f : FuncId} {args : List V} {b : Bool} (h : VCalls P f args [] 0 (Gives (.val (.bool b)))) {ms : Array Value} {w : World} (hs : ms.size = args.length) (hv : ∀ (i : Nat) (v : V) (m : Value), args[i]? = some v → ms[i]? = some m → VRep (fun a u => w.cell? a = some u) (fun _ => none) 0 v m) :
  Calls P f ms w fun e w' => e = .returned (.bool b) ∧ Below w.heap.size w w' := by
 have hrep : HRep (cxOf (fun _ => False) (fun _ => undef) [] 0 w) (fun _ => undef) [] 0 w := ⟨rfl, rfl, rfl, Nat.le_refl _, fun _ _ _ => rfl, fun _ _ h => by simp [gvOf, lk] at h, fun _ _ _ _ _ h => by simp [gvOf, lk] at h, fun _ _ _ h => by simp [gvOf, lk] at h, fun _ _ _ h => h, Nat.le_refl _, fun _ h => h.elim⟩
 refine (h (fun _ => False) (fun _ => undef) w ms hrep hs (fun i v m h1 h2 => (hv i v m h1 h2).mono (fun a u h => ⟨fun h => h, fun ⟨_, _, h, _⟩ => by simp [gvOf, lk] at h, h⟩) (fun _ _ h _ => by omega) (Nat.le_refl _))).mono ?_
 rintro e w' ⟨g', h', x', out, hh, hout, rfl, rfl, rfl⟩
 cases e with
 | returned m =>
  have := VRep.val_inv hout
  subst this
  exact ⟨rfl, hh.os, hh.tape, hh.output, hh.size, fun k hk => hh.old k hk (fun ⟨_, _, h, _⟩ => by simp [cxOf, gvOf, lk] at h)⟩
 | panicked c => exact hout.elim
 | outgrown => exact hout.elim
inductive ArgsRep (R : Addr → Value → Prop) : List V → List Value → Prop
 | nil : ArgsRep R [] []
 | cons {v : V} {m : Value} {vs : List V} {ms : List Value} : VRep R (fun _ => none) 0 v m → ArgsRep R vs ms → ArgsRep R (v :: vs) (m :: ms)
theorem args_of {R : Addr → Value → Prop} {vs : List V} {ms : List Value} (h : ArgsRep R vs ms) (i : Nat) (v : V) (m : Value) (h1 : vs[i]? = some v) (h2 : ms.toArray[i]? = some m) : VRep R (fun _ => none) 0 v m := by
 rw [List.getElem?_toArray] at h2
 induction h generalizing i with
 | nil => simp at h1
 | cons h _ ih =>
  cases i with
  | zero => simp at h1 h2; subst h1; subst h2; exact h
  | succ i => exact ih i (by simpa using h1) (by simpa using h2)
theorem arg_one {R : Addr → Value → Prop} {d : D} {m : Value} (h : rowRep R [d] [m]) : VRep R (fun _ => none) 0 d.toV m := VRep.of_D (h.2 0 d m rfl rfl)
theorem arg_agg {R : Addr → Value → Prop} {ds : List D} {ms : Array Value} (h : rowRep R ds ms.toList) : VRep R (fun _ => none) 0 (.agg (ds.map D.toV)) (.agg ms) := by
 refine .agg _ _ (by rw [List.length_map, ← h.1]; simp) (fun i c m hc hm => ?_)
 rw [List.getElem?_map] at hc
 cases hd : ds[i]? with
 | none => rw [hd] at hc; cases hc
 | some d => rw [hd] at hc; obtain rfl := Option.some.inj hc; exact VRep.of_D (h.2 i d m hd (by simpa using hm))
section
open Go.ChangeShapes Go.WideShapes
variable {H : Type} {enc : TypeId × Value → H} {P : Program} {w : World} {spare : Nat → Bool} {held : Bool} {t : TypeId} {v : Value} {d : DataW H} {ps : List MemPlace} {α : Type} {good : α → Prop}
theorem open1 {e : α → D} (ho : OpensD enc P w 0 spare held (fun a => [e a]) t good) (h : DataW.Trod enc P w 0 spare held t v d ps) (hw : ∀ n ∈ d.weights P t, n ≤ reachBytes) (hv : v.cells.toList = [v]) : ∃ a, VRep (fun a u => w.cell? a = some u) (fun _ => none) 0 (e a).toV v ∧ good a := by
 obtain ⟨fuel, hf⟩ := h
 obtain ⟨a, ha, _, hg⟩ := ho _ _ _ hf hw
 rw [hv] at ha
 exact ⟨a, arg_one ha, hg⟩
theorem openA {f : α → List D} {cs : Array Value} (ho : OpensD enc P w 0 spare held f t good) (h : DataW.Trod enc P w 0 spare held t (.agg cs) d ps) (hw : ∀ n ∈ d.weights P t, n ≤ reachBytes) : ∃ a, VRep (fun a u => w.cell? a = some u) (fun _ => none) 0 (.agg ((f a).map D.toV)) (.agg cs) ∧ good a := by
 obtain ⟨fuel, hf⟩ := h
 obtain ⟨a, ha, _, hg⟩ := ho _ _ _ hf hw
 exact ⟨a, arg_agg ha, hg⟩
end
end Go.Proofs.Ytfjfbapiheehaaa.V
namespace Go.Proofs.Ytfjfbapiheehaaa.V
open Go Go.RowKit
section
variable {P : Program} {n : Nat} {cx : Cx} {ops : Array Oper} {K : St → Prop} {E : List PanicEntry → St → Prop} {i : Nat} {o : Oper} {rest : List Oper} {s : List (Nat × V)} {h : Heap} {x dd dr : Nat} {m : List Nat}
theorem VOps.alloc {t : TypeId} {d : TypeDesc} {sz b : Nat} {z : Value} {cs : List V} (ho : o.op = .alloc t) (hw : wantedV ops o s = some true) (hs : okM dr ops i m [] = true) (hd : o.dst = some dd) [ht : TI P t d sz b z] (hz : z.cells.all Value.oneCell' = true) (hcs : z.cells.toList.map V.val = cs)
  (h2 : VOps P n cx (nxt dr) m ops K E (i + 1) rest ⟨(dd, .ptr x 0) :: s, (x, .cells t cs) :: h, x + 1⟩) : VOps P n cx dr m ops K E i (o :: rest) ⟨s, h, x⟩ := VOps.oo hw hs hd (VOp.alloc ho hz) (by rw [hcs]; exact h2)
theorem VOps.box {t : TypeId} {y : Operand} {v : V} {cs : List V} (ho : o.op = .box t y) (hw : wantedV ops o s = some true) (hs : okM dr ops i m [] = true) (hd : o.dst = some dd) (hx : ev s y = some v) (hf : flat v = cs) (hv : (flat v).all V.single = true)
  (h2 : VOps P n cx (nxt dr) m ops K E (i + 1) rest ⟨(dd, .ptr x 0) :: s, (x, .cells t cs) :: h, x + 1⟩) : VOps P n cx dr m ops K E i (o :: rest) ⟨s, h, x⟩ := VOps.oo hw hs hd (VOp.box ho hx hv) (by rw [hf]; exact h2)
theorem VOps.store {t t' : TypeId} {p y : Operand} {id off : Nat} {cs cs' : List V} {v : V} {d : TypeDesc} {sz b : Nat} {z : Value} (ho : o.op = .store t p y) (hw : wantedV ops o s = some true) (hs : okM dr ops i m [id] = true) (hd : o.dst = none) (hp : ev s p = some (.ptr id off)) (hx : ev s y = some v) (hh : lk h id = some (.cells t' cs)) [ht : TI P t d sz b z]
  (hv : (flat v).all V.single = true) (hl : (flat v).length = sz) (hin : off + sz ≤ cs.length) (hc : splice cs off (flat v) = cs')
  (h2 : VOps P n cx (nxt dr) m ops K E (i + 1) rest ⟨s, (id, .cells t' cs') :: h, x⟩) : VOps P n cx dr m ops K E i (o :: rest) ⟨s, h, x⟩ := VOps.oo0 hw hs hd (VOp.store ho hp hx hh hv hl hin) (by rw [hc]; exact h2)
theorem VOps.store_arr {t e' : TypeId} {p y : Operand} {id pos k j sz : Nat} {xs : List (List D)} {row ds : List D} {v : V} {d : TypeDesc} {sz' b : Nat} {z : Value} (ho : o.op = .store t p y) (hw : wantedV ops o s = some true) (hs : okM dr ops i m [id] = true) (hd : o.dst = none) (hp : ev s p = some (.ael id pos)) (hx : ev s y = some v) (hh : lk h id = some (.arr e' sz xs)) (hpos : pos = k * sz + j) (hrow : xs[k]? = some row) [ht : TI P t d sz' b z]
  (hds : toDs (flat v) = some ds) (hl : (flat v).length = sz') (hin : j + sz' ≤ sz)
  (h2 : VOps P n cx (nxt dr) m ops K E (i + 1) rest ⟨s, (id, .arr e' sz (xs.set k (splice row j ds))) :: h, x⟩) : VOps P n cx dr m ops K E i (o :: rest) ⟨s, h, x⟩ := VOps.oo0 hw hs hd (VOp.store_arr ho hp hx hh hpos hrow hds hl hin) h2
theorem VOps.one {t e : TypeId} {sz b s' b' : Nat} {z z' : Value} {d' : TypeDesc} {y : Operand} {v : V} {ds : List D} (ho : o.op = .buildSlice t 1 #[(0, y)]) (hw : wantedV ops o s = some true) (hs : okM dr ops i m [] = true) (hd : o.dst = some dd) [ht : TI P t (.slice e) sz b z] [he : TI P e d' s' b' z'] (hz : z'.cells.size = s') (hs' : s' ≤ 1000) (hs0 : 0 < s') (hx : ev s y = some v) (hl : (flat v).length = s') (hds : toDs (flat v) = some ds)
  (h2 : VOps P n cx (nxt dr) m ops K E (i + 1) rest ⟨(dd, .ref x) :: s, (x, .arr e s' [ds]) :: h, x + 1⟩) : VOps P n cx dr m ops K E i (o :: rest) ⟨s, h, x⟩ := VOps.oo hw hs hd (VOp.one ho hz hs' hs0 hx hl hds) h2
theorem VOps.lit {t e : TypeId} {sz b s' b' : Nat} {z z' : Value} {d' : TypeDesc} {len : Nat} {parts : Array (Nat × Operand)} {qs : List (Nat × V)} {cs : List V} {ds : List D} {rows : List (List D)} (ho : o.op = .buildSlice t len parts) (hw : wantedV ops o s = some true) (hs : okM dr ops i m [] = true) (hd : o.dst = some dd) [ht : TI P t (.slice e) sz b z] [he : TI P e d' s' b' z'] (hz : z'.cells.all Value.oneCell' = true) (hzs : z'.cells.size = s') (hs0 : 0 < s') (hs' : len * s' ≤ 100000)
  (hq : evParts s parts.toList = some qs) (hf : fillV (fun i => some (i * s', s')) ((List.range (len * s')).map fun k => .val (z'.cells.toList.getD (k % s') undef)) qs = some cs) (hds : toDs cs = some ds) (hdl : ds.length = len * s') (hrow : chunk s' len ds = rows)
  (h2 : VOps P n cx (nxt dr) m ops K E (i + 1) rest ⟨(dd, .ref x) :: s, (x, .arr e s' rows) :: h, x + 1⟩) : VOps P n cx dr m ops K E i (o :: rest) ⟨s, h, x⟩ := VOps.oo hw hs hd (VOp.lit ho hz hzs hs0 hs' hq hf hds hdl) (by rw [hrow]; exact h2)
theorem VOps.append {t e : TypeId} {zs : List (List D)} {sz b s' b' : Nat} {z z' : Value} {d' : TypeDesc} {p q : Operand} {u v : V} {xs ys : List (List D)} {old : Option Nat} {h' : Heap} (ho : o.op = .call { callee := .builtin .append, args := #[p, q], argTypes := #[t, t] }) (hw : wantedV ops o s = some true) (hs : okM dr ops i m old.toList = true) (hd : o.dst = some dd) [ht : TI P t (.slice e) sz b z] [he : TI P e d' s' b' z'] (hz : z'.cells.size = s') (hs0 : 0 < s')
  (hp : ev s p = some u) (hb : Base h u e s' xs old) (hq : ev s q = some v) (hsrc : Src h v s' ys) (hl : (xs.length + ys.length) * b' ≤ most) (hl' : xs.length + ys.length ≤ most) (hg : gone old h = h') (hzs : xs ++ ys = zs)
  (h2 : VOps P n cx (nxt dr) m ops K E (i + 1) rest ⟨(dd, .ref x) :: s, (x, .arr e s' zs) :: h', x + 1⟩) : VOps P n cx dr m ops K E i (o :: rest) ⟨s, h, x⟩ := VOps.oo hw hs hd (VOp.append ho hz hs0 hp hb hq hsrc hl hl') (by rw [hg, hzs]; exact h2)
theorem VOps.pure {y : Operand} {xs : Array Operand} {ts : Array TypeId} {f : FuncId} {fn : Func} {vs us caps : List V} {r : V} (ho : o.op = .call { callee := .value y, args := xs, argTypes := ts }) (hf : P.funcs[f]? = some fn) (hw : wantedV ops o s = some true) (hs : okM dr ops i m [] = true) (hd : o.dst = some dd)
  (hb : fn.body.isSome = true) (hnm : (fn.name == "runtime.NumGoroutine") = false) (hx : ev s y = some (.fn f caps)) (hv : evs s xs.toList = some vs) (hu : V.lendL h (vs ++ caps) = us) (hr : r.dry = true) (hc : VCalls P f us [] 0 (Gives r))
  (h2 : VOps P n cx (nxt dr) m ops K E (i + 1) rest ⟨(dd, r) :: s, h, x⟩) : VOps P n cx dr m ops K E i (o :: rest) ⟨s, h, x⟩ := VOps.oo hw hs hd (VOp.pure ho hf hb hnm hx hv hu hr hc) h2
theorem VOps.gives {y : Operand} {xs : Array Operand} {ts : Array TypeId} {f : FuncId} {fn : Func} {vs : List V} {r : V} (ho : o.op = .call { callee := .value y, args := xs, argTypes := ts }) (hf : P.funcs[f]? = some fn) (hw : wantedV ops o s = some true) (hs : okM dr ops i m [] = true) (hd : o.dst = some dd)
  (hb : fn.body.isSome = true) (hnm : (fn.name == "runtime.NumGoroutine") = false) (hx : ev s y = some (.fn f [])) (hv : evs s xs.toList = some vs) (ha : vs = V.renL (nm []) vs) (hl : V.ltL 0 vs = true) (hr : r.ren (rn [] x) = r) (hc : VCalls P f vs [] 0 (Gives r))
  (h2 : VOps P n cx (nxt dr) m ops K E (i + 1) rest ⟨(dd, r) :: s, h, x⟩) : VOps P n cx dr m ops K E i (o :: rest) ⟨s, h, x⟩ := VOps.oo hw hs hd (VOp.gives ho hf hb hnm hx hv ha hl hc hr) h2
theorem VCode.give {Q : VExit → St → Prop} {fn : Func} {d : Nat} {v r : V} (h0 : cx.x = 0) (hQ : Q .ret = retPost P fn (Gives r) .ret) (hr : fn.results.toList = [.tmp d]) (hv : lk s d = some v) (hlt : v.lt 0 = true) (hren : v = v.ren (nm [])) (e : v = r) : VCode P n cx .ret Q ⟨s, h, x⟩ := by
 refine VCode.retL (Less.mk (l := []) (st' := ⟨[(d, v)], [], 0⟩) h0 (SubS.cons (by rw [hv, ← hren]) hlt SubS.nil) SubH.nil rfl List.nodup_nil rfl ?_)
 rw [hQ]
 refine ⟨[v], ?_, ?_, rfl, rfl⟩
 ·rw [hr]; exact .tmp (lk_same _ _ _) .nil
 ·show VOut.ret v = _
  rw [e]
end
end Go.Proofs.Ytfjfbapiheehaaa.V
namespace Go.Proofs.Ytfjfbapiheehaaa.V
open Go Go.RowKit Go.Proofs.Ytfjfbapiheehaaa.Comm
def listedOf (n : Nat) (pend : List (Nat × Oper)) : Array Bool := ((List.range n).map fun j => !(pend.any fun p => Nat.beq p.1 j)).toArray
def takeAt (ops : Array Oper) (pend : List (Nat × Oper)) (i : Nat) : Bool := Region.noSelect ops && Region.free .any ops (listedOf ops.size pend) i && (Region.ready .any ops (listedOf ops.size pend)).contains i
def pendOk (ops : Array Oper) (pend : List (Nat × Oper)) : Prop := (∀ p ∈ pend, ops[p.1]? = some p.2) ∧ (pend.map (·.1)).Nodup
def VAny (P : Program) (n : Nat) (cx : Cx) (ph : Bool) (m : List Nat) (ops : Array Oper) (K : St → Prop) (E : List PanicEntry → St → Prop) (dl pl : List (Nat × Oper)) (st : St) : Prop :=
 dstOk n ops = true → pendOk ops (dl ++ pl) → ∀ g a w, Rep n cx g st a w → match ph with
  | true => wpAnyH P .any ops (lift n cx (opost K E)) (SB m ⟨g, st.h, st.x, w⟩) (dl ++ pl).length (listedOf ops.size (dl ++ pl)) a w
  | false => ∀ b : Began, Link m b g st.h st.x w → wpAnyH P .any ops (lift n cx (opost K E)) (SB m b) (dl ++ pl).length (listedOf ops.size (dl ++ pl)) a w
theorem listedOf_get (n : Nat) (pend : List (Nat × Oper)) (j : Nat) : (listedOf n pend)[j]? = if j < n then some (!(pend.any fun p => Nat.beq p.1 j)) else none := by
 unfold listedOf
 simp only [List.getElem?_toArray, List.getElem?_map]
 by_cases h : j < n
 ·rw [if_pos h, List.getElem?_range h]; rfl
 ·rw [if_neg h, List.getElem?_eq_none (by simp; omega)]; rfl
theorem listedOf_set {n : Nat} {dl pl : List (Nat × Oper)} {i : Nat} {o : Oper} (hi : i < n) (hn : ((dl ++ (i, o) :: pl).map (·.1)).Nodup) : (listedOf n (dl ++ (i, o) :: pl)).setIfInBounds i true = listedOf n (dl ++ pl) := by
 apply Array.ext_getElem?
 intro j
 rw [Array.getElem?_setIfInBounds, listedOf_get, listedOf_get]
 have hsz : (listedOf n (dl ++ (i, o) :: pl)).size = n := by simp [listedOf]
 have hmem : ∀ p ∈ dl ++ pl, p.1 ≠ i := by
  rw [List.map_append, List.map_cons] at hn
  have h1 := (List.nodup_append.1 hn)
  have h2 := (List.nodup_cons.1 h1.2.1)
  intro p hp
  rcases List.mem_append.1 hp with hp | hp
  ·exact h1.2.2 p.1 (List.mem_map.2 ⟨p, hp, rfl⟩) i List.mem_cons_self
  ·rintro rfl; exact h2.1 (List.mem_map.2 ⟨p, hp, rfl⟩)
 by_cases h : i = j
 ·subst h
  rw [if_pos rfl, if_pos (by rw [hsz]; exact hi), if_pos hi]
  have : (dl ++ pl).any (fun p => Nat.beq p.1 i) = false := by
   rw [List.any_eq_false]
   intro p hp hb
   exact hmem p hp (Nat.eq_of_beq_eq_true hb)
  rw [this]; rfl
 ·rw [if_neg h]
  by_cases hj : j < n
  ·rw [if_pos hj, if_pos hj]
   have hb : Nat.beq i j = false := by cases hb : Nat.beq i j with
    | true => exact absurd (Nat.eq_of_beq_eq_true hb) h
    | false => rfl
   simp only [List.any_append, List.any_cons, hb, Bool.false_or]
  ·rw [if_neg hj, if_neg hj]
section
variable {P : Program} {n : Nat} {cx : Cx} {Q : VExit → St → Prop} {st : St} {ops : Array Oper} {K : St → Prop} {E : List PanicEntry → St → Prop} {i : Nat} {o : Oper} {dl pl : List (Nat × Oper)} {ph : Bool} {m : List Nat}
theorem pendOk.drop (h : pendOk ops (dl ++ (i, o) :: pl)) : ops[i]? = some o ∧ i < ops.size ∧ pendOk ops (dl ++ pl) := by
 obtain ⟨h1, h2⟩ := h
 have ho := h1 (i, o) (by simp)
 refine ⟨ho, (Array.getElem?_eq_some_iff.1 ho).1, fun p hp => h1 p ?_, ?_⟩
 ·rcases List.mem_append.1 hp with h | h
  ·exact List.mem_append_left _ h
  ·exact List.mem_append_right _ (List.mem_cons_of_mem _ h)
 ·refine h2.sublist ?_
  rw [List.map_append, List.map_append, List.map_cons]
  exact List.Sublist.append_left (List.sublist_cons_self _ _) _
theorem vany_take {S : World → Prop} {a : Act} {w : World} {mv : Value} (hf : takeAt ops (dl ++ (i, o) :: pl) i = true) (hp : pendOk ops (dl ++ (i, o) :: pl)) (hy : YieldsIf P ops S o mv a) (hS : S w)
  (h : wpAnyH P .any ops (lift n cx (opost K E)) S (dl ++ pl).length (listedOf ops.size (dl ++ pl)) (a.put o.dst mv) w) : wpAnyH P .any ops (lift n cx (opost K E)) S (dl ++ (i, o) :: pl).length (listedOf ops.size (dl ++ (i, o) :: pl)) a w := by
 obtain ⟨ho, hi, _⟩ := hp.drop
 unfold takeAt at hf
 simp only [Bool.and_eq_true] at hf
 rw [show (dl ++ (i, o) :: pl).length = (dl ++ pl).length + 1 from by simp; omega]
 refine wpAnyH_take (v := mv) ho hf.1.1 hf.1.2 hf.2 (panic_put _ _) hy hS ?_
 rw [listedOf_set hi hp.2]; exact h
theorem VAny.pure {v : V} {s : List (Nat × V)} {h : Heap} {x d : Nat} (hw : wantedV ops o s = some true) (hs : takeAt ops (dl ++ (i, o) :: pl) i = true) (hd : o.dst = some d) (h1 : VPure P n cx o ⟨s, h, x⟩ v) (h2 : VAny P n cx ph m ops K E dl pl ⟨(d, v) :: s, h, x⟩) : VAny P n cx ph m ops K E dl ((i, o) :: pl) ⟨s, h, x⟩ := by
 intro hn hp g a w r
 obtain ⟨ho, hi, hp'⟩ := hp.drop
 obtain ⟨mv, hv, hrun⟩ := h1 g a w r
 have hrep : Rep n cx g ⟨(d, v) :: s, h, x⟩ (a.put o.dst mv) w := by rw [hd]; exact r.put (dstOk_lt hn i d (by rw [ho]; exact hd)) (Next.refl _ _ _ _) r.h hv
 cases ph with
 | true => exact vany_take hs hp (.inl ⟨wantedV_is r hn hw, fun w' _ => hrun w'⟩) ⟨Nat.le_refl _, fun _ _ _ => rfl⟩ (h2 hn hp' g _ w hrep)
 | false => intro b hb; exact vany_take hs hp (.inl ⟨wantedV_is r hn hw, fun w' _ => hrun w'⟩) hb.s (h2 hn hp' g _ w hrep b hb)
theorem VAny.load {v : V} {s : List (Nat × V)} {h : Heap} {x d : Nat} (hw : wantedV ops o s = some true) (hs : takeAt ops (dl ++ (i, o) :: pl) i = true) (hd : o.dst = some d) (h1 : VLoad P n cx m o ⟨s, h, x⟩ v) (h2 : VAny P n cx true m ops K E dl pl ⟨(d, v) :: s, h, x⟩) : VAny P n cx true m ops K E dl ((i, o) :: pl) ⟨s, h, x⟩ := by
 intro hn hp g a w r
 obtain ⟨ho, hi, hp'⟩ := hp.drop
 obtain ⟨mv, hv, hrun⟩ := h1 g a w r
 have hrep : Rep n cx g ⟨(d, v) :: s, h, x⟩ (a.put o.dst mv) w := by rw [hd]; exact r.put (dstOk_lt hn i d (by rw [ho]; exact hd)) (Next.refl _ _ _ _) r.h hv
 exact vany_take hs hp (.inl ⟨wantedV_is r hn hw, fun w' hS => hrun w' hS.2⟩) ⟨Nat.le_refl _, fun _ _ _ => rfl⟩ (h2 hn hp' g _ w hrep)
theorem VAny.pass {s : List (Nat × V)} {h : Heap} {x d : Nat} (hw : wantedV ops o s = some false) (hs : takeAt ops (dl ++ (i, o) :: pl) i = true) (hd : o.dst = some d) (h2 : VAny P n cx ph m ops K E dl pl ⟨(d, .tup []) :: s, h, x⟩) : VAny P n cx ph m ops K E dl ((i, o) :: pl) ⟨s, h, x⟩ := by
 intro hn hp g a w r
 obtain ⟨ho, hi, hp'⟩ := hp.drop
 have hrep : Rep n cx g ⟨(d, .tup []) :: s, h, x⟩ (a.put o.dst undef) w := by rw [hd]; exact r.put (dstOk_lt hn i d (by rw [ho]; exact hd)) (Next.refl _ _ _ _) r.h (.tup [] #[] rfl (fun i c m hc hm => by cases hc))
 cases ph with
 | true => exact vany_take hs hp (.inr ⟨wantedV_is r hn hw, rfl⟩) ⟨Nat.le_refl _, fun _ _ _ => rfl⟩ (h2 hn hp' g _ w hrep)
 | false => intro b hb; exact vany_take hs hp (.inr ⟨wantedV_is r hn hw, rfl⟩) hb.s (h2 hn hp' g _ w hrep b hb)
theorem VAny.off (h : VAny P n cx ph m ops K E (dl ++ [(i, o)]) pl st) : VAny P n cx ph m ops K E dl ((i, o) :: pl) st := by
 have e : dl ++ (i, o) :: pl = (dl ++ [(i, o)]) ++ pl := by simp
 intro hn hp g a w r
 rw [e] at hp ⊢
 exact h hn hp g a w r
def readyAt (ops : Array Oper) (pend : List (Nat × Oper)) : List Nat := Region.ready .any ops (listedOf ops.size pend)
theorem vany_step {b : Began} {g : Nat → Value} {a : Act} {w : World} {m' : List Nat} {Ko : V → Heap → Nat → Prop} (hm : ∀ k ∈ m', k ∈ m) (hw : wantedV ops o st.s = some true) (h1 : VOp P n cx m' o Ko E st) (h2 : ∀ v h' x', Ko v h' x' → VAny P n cx false m ops K E dl pl ⟨putS o.dst v st.s, h', x'⟩)
  (hn : dstOk n ops = true) (hp : pendOk ops (dl ++ (i, o) :: pl)) (r : Rep n cx g st a w) (hb : Link m b g st.h st.x w) :
  wpOp P ops (lift n cx (opost K E)) i (fun a' w' => SB m b w' ∧ wpAnyH P .any ops (lift n cx (opost K E)) (SB m b) (dl ++ pl).length ((listedOf ops.size (dl ++ (i, o) :: pl)).setIfInBounds i true) a' w') a w := by
 obtain ⟨ho, hi, hp'⟩ := hp.drop
 have hwant := wantedV_is r hn hw
 rw [listedOf_set hi hp.2]
 unfold wpOp
 simp only [ho, hwant, if_true]
 left
 refine h1 g a w r _ _ ?_ ?_
 ·intro g' v mv h' x' w' hk hh hv hx ht
  have hb' := hb.step hm hx ht
  refine ⟨hb'.s, ?_⟩
  refine h2 v h' x' hk hn hp' g' _ w' ?_ b hb'
  cases hd : o.dst with
  | some d => exact r.put (dstOk_lt hn i d (by rw [ho]; exact hd)) hx hh hv
  | none => exact r.skip hx hh
 ·intro c g' st' w' he hh
  exact ⟨r.defers, g', st', hh, he⟩
theorem VAny.move {m' : List Nat} {Ko : V → Heap → Nat → Prop} (hr : readyAt ops (dl ++ (i, o) :: pl) = [i]) (hm : (m'.all fun k => m.contains k) = true) (hw : wantedV ops o st.s = some true) (h1 : VOp P n cx m' o Ko E st) (h2 : ∀ v h' x', Ko v h' x' → VAny P n cx false m ops K E dl pl ⟨putS o.dst v st.s, h', x'⟩) : VAny P n cx ph m ops K E dl ((i, o) :: pl) st := by
 have hm : ∀ k ∈ m', k ∈ m := by simpa [List.all_eq_true] using hm
 have e : (dl ++ (i, o) :: pl).length = (dl ++ pl).length + 1 := by simp; omega
 have key : dstOk n ops = true → pendOk ops (dl ++ (i, o) :: pl) → ∀ g a w, Rep n cx g st a w → ∀ b : Began, Link m b g st.h st.x w → wpAnyH P .any ops (lift n cx (opost K E)) (SB m b) (dl ++ (i, o) :: pl).length (listedOf ops.size (dl ++ (i, o) :: pl)) a w := by
  intro hn hp g a w r b hb
  rw [e]
  refine wpAnyH_all hr (by simp) (fun j hj => ?_)
  obtain rfl := List.mem_singleton.1 hj
  exact vany_step hm hw h1 h2 hn hp r hb
 intro hn hp g a w r
 cases ph with
 | true => exact key hn hp g a w r _ (.start r)
 | false => exact fun b hb => key hn hp g a w r b hb
theorem VAny.done (h : K st) : VAny P n cx ph m ops K E [] [] st := by
 intro hn hp g a w r
 have hr : Region.ready .any ops (listedOf ops.size []) = [] := by
  refine List.eq_nil_iff_forall_not_mem.2 (fun j hj => ?_)
  obtain ⟨h1, o, h2, _⟩ := mem_ready.1 hj
  have hlt := (Array.getElem?_eq_some_iff.1 h2).1
  rw [Array.getD_eq_getD_getElem?, listedOf_get, if_pos hlt] at h1
  simp at h1
 cases ph with
 | true => exact wpAnyH_done hr ⟨g, st, r, h⟩ _
 | false => intro b hb; exact wpAnyH_done hr ⟨g, st, r, h⟩ _
def numbered (i : Nat) : List Oper → List (Nat × Oper)
 | [] => []
 | o :: l => (i, o) :: numbered (i + 1) l
theorem numbered_mem (l : List Oper) : ∀ (i : Nat) (p : Nat × Oper), p ∈ numbered i l → i ≤ p.1 ∧ l[p.1 - i]? = some p.2 := by
 induction l with
 | nil => intro i p h; cases h
 | cons o l ih =>
  intro i p h
  rcases List.mem_cons.1 h with rfl | h
  ·exact ⟨Nat.le_refl _, by simp⟩
  ·obtain ⟨h1, h2⟩ := ih _ _ h
   refine ⟨by omega, ?_⟩
   rw [show p.1 - i = (p.1 - (i + 1)) + 1 from by omega]; exact h2
theorem numbered_nodup (l : List Oper) : ∀ (i : Nat), ((numbered i l).map (·.1)).Nodup := by
 induction l with
 | nil => intro i; exact List.nodup_nil
 | cons o l ih =>
  intro i
  refine List.nodup_cons.2 ⟨fun h => ?_, ih _⟩
  obtain ⟨p, hp, e⟩ := List.mem_map.1 h
  have := (numbered_mem l _ _ hp).1
  have e : p.1 = i := e
  omega
theorem numbered_any (l : List Oper) : ∀ (i j : Nat), i ≤ j → j < i + l.length → ((numbered i l).any fun p => Nat.beq p.1 j) = true := by
 induction l with
 | nil => intro i j h1 h2; simp at h2; omega
 | cons o l ih =>
  intro i j h1 h2
  simp only [numbered, List.any_cons, Bool.or_eq_true]
  by_cases h : i = j
  ·left; subst h; exact Nat.beq_refl _
  ·right; exact ih (i + 1) j (by omega) (by simp at h2; omega)
theorem numbered_length (l : List Oper) : ∀ (i : Nat), (numbered i l).length = l.length := by
 induction l with
 | nil => intro i; rfl
 | cons o l ih => intro i; simp [numbered, ih]
theorem VCode.drawAny [hm : Mixed P] {id : Nat} {l : List Oper} {nl : List (Nat × Oper)} (m : List Nat) (hd : dstOk n l.toArray = true) (hnl : numbered 0 l = nl) (h : VAny P n cx true m l.toArray (Q .normal) (fun c => Q (.panic c)) [] nl st) : VCode P n cx (.region id l.toArray true) Q st := fun g a w r => by
 subst hnl
 have hp : pendOk l.toArray ([] ++ numbered 0 l) := ⟨fun p hp => by have := (numbered_mem l 0 p hp).2; simpa using this, numbered_nodup l 0⟩
 have h1 := h hd hp g a { w with drawn := w.drawn + 1 } (r.world rfl rfl rfl rfl)
 refine Go.wp_mono (wp_region_held (Q := lift n cx (opost (Q .normal) fun c => Q (.panic c))) hm.h (S := SB m ⟨g, st.h, st.x, { w with drawn := w.drawn + 1 }⟩) ?_) ?_
 ·have e : listedOf l.toArray.size ([] ++ numbered 0 l) = Array.replicate l.toArray.size false := by
   apply Array.ext_getElem?
   intro j
   rw [listedOf_get, Array.getElem?_replicate]
   by_cases hj : j < l.toArray.size
   ·rw [if_pos hj, if_pos hj, List.nil_append, numbered_any l 0 j (Nat.zero_le _) (by simpa using hj)]; rfl
   ·rw [if_neg hj, if_neg hj]
  have e2 : ([] ++ numbered 0 l).length = l.toArray.size := by simp [numbered_length]
  have h1 : wpAnyH P .any l.toArray (lift n cx (opost (Q .normal) fun c => Q (.panic c))) (SB m ⟨g, st.h, st.x, { w with drawn := w.drawn + 1 }⟩) ([] ++ numbered 0 l).length (listedOf l.toArray.size ([] ++ numbered 0 l)) a { w with drawn := w.drawn + 1 } := h1
  rw [e, e2] at h1
  exact h1
 ·intro e a' w' hq
  exact opost_lift hq
end
end Go.Proofs.Ytfjfbapiheehaaa.V
namespace Go.Proofs.Ytfjfbapiheehaaa.V
open Go Go.RowKit
section
variable {P : Program} {n : Nat} {cx : Cx} {st : St} {o : Oper} {t t' : TypeId} {x y : Operand} {k : IntKind} {a b : Int}
theorem VPure.cut_take {α : Type} {f : α → List D} {xs : List α} {j : Nat} {e : TypeId} {hi : Operand} {s b s' b' : Nat} {z z' : Value} {d' : TypeDesc} {k' : IntKind} (ho : o.op = .slice t x none (some hi) none) (hx : ev st.s x = some (.sl s' (xs.map f))) (hh : ev st.s hi = some (.val (.int k' (j : Int)))) [ht : TI P t (.slice e) s b z] [he : TI P e d' s' b' z'] (h : j ≤ xs.length) :
  VPure P n cx o st (.sl s' ((xs.take j).map f)) := by
 have := VPure.cut_sl (n := n) (cx := cx) ho hx .none (.some hh) (ht := ht) (he := he) (Int.le_refl 0) (by omega) (by rw [List.length_map]; omega)
 simpa [List.map_take] using this
theorem VPure.idx_arrm {α : Type} {f : α → List D} {xs : List α} {u : α} {id j : Nat} {e e' : TypeId} {y : Operand} {s b s' b' : Nat} {z z' : Value} {d' : TypeDesc} {k' : IntKind} (ho : o.op = .indexAddr t x y) (hx : ev st.s x = some (.ref id)) (hy : ev st.s y = some (.val (.int k' (j : Int)))) (hh : lk st.h id = some (.arr e' s' (xs.map f))) [ht : TI P t (.slice e) s b z] [he : TI P e d' s' b' z'] (hu : xs[j]? = some u) :
  VPure P n cx o st (.ael id (j * s' + 0)) := by
 have hj := (List.getElem?_eq_some_iff.1 hu).1
 exact VPure.idx_arr (n := n) (cx := cx) ho hx hy hh (ht := ht) (he := he) (by omega) (by rw [List.length_map]; omega)
theorem VLoad.arr1m {α : Type} {f : α → List D} {xs : List α} {u : α} {id pos i j sz : Nat} {e' : TypeId} {c : D} {m : List Nat} {d : TypeDesc} {s b : Nat} {z : Value} (ho : o.op = .load t x) (hx : ev st.s x = some (.ael id pos)) (hh : lk st.h id = some (.arr e' sz (xs.map f))) (hp : pos = i * sz + j) (hu : xs[i]? = some u) (hc : (f u)[j]? = some c) [ht : TI P t d s b z] (hd : aggT d = false) (hm : id ∉ m) : VLoad P n cx m o st c.toV :=
 VLoad.arr1 ho hx hh hp (by rw [List.getElem?_map, hu]; exact hc) hd hm
theorem VLoad.arrAm {α : Type} {f : α → List D} {xs : List α} {u : α} {id pos i j sz : Nat} {e' : TypeId} {m : List Nat} {d : TypeDesc} {s b : Nat} {z : Value} (ho : o.op = .load t x) (hx : ev st.s x = some (.ael id pos)) (hh : lk st.h id = some (.arr e' sz (xs.map f))) (hp : pos = i * sz + j) (hu : xs[i]? = some u) [ht : TI P t d s b z] (hd : aggT d = true) (hl : j + s ≤ (f u).length) (hm : id ∉ m) : VLoad P n cx m o st (.agg ((((f u).drop j).take s).map D.toV)) :=
 VLoad.arrA ho hx hh hp (by rw [List.getElem?_map, hu]; rfl) hd hl hm
class PL (P : Program) (t : TypeId) (pl : outParam (List (Nat × Nat))) : Prop where
 is : ((P.underlying t).bind fun d => match d with | .struct fs => placesOf P fs.toList | _ => none) = some pl
def tidy {α : Type} : List α → Option (List α)
 | [] => some []
 | a :: l => match tidy l with
  | some r => some (a :: r)
  | none => none
theorem tidy_is {α : Type} (l : List α) : tidy l = some l := by
 induction l with
 | nil => rfl
 | cons a l ih => simp [tidy, ih]
theorem VPure.buildC {t : TypeId} {fs : Array Field} {s b : Nat} {z : Value} {parts : Array (Nat × Operand)} {qs : List (Nat × V)} {pl : List (Nat × Nat)} {cs : List V} (ho : o.op = .build t parts) [ht : TI P t (.struct fs) s b z] [hp : PL P t pl] (hz : z.cells.all Value.oneCell' = true)
  (hq : evParts st.s parts.toList = some qs) (hf : ((fillV (fun i => pl[i]?) (z.cells.toList.map .val) qs).bind tidy) = some cs) : VPure P n cx o st (.agg cs) := by
 have h1 := hp.is
 rw [ht.und] at h1
 cases hc : fillV (fun i => pl[i]?) (z.cells.toList.map .val) qs with
 | none => rw [hc] at hf; cases hf
 | some cs' =>
  rw [hc] at hf
  have hf : tidy cs' = some cs := hf
  rw [tidy_is] at hf
  obtain rfl := Option.some.inj hf
  refine VPure.build ho (ht := ht) hz h1 hq ?_
  have e : (fun i => pl.toArray[i]?) = (fun i => pl[i]?) := funext fun i => List.getElem?_toArray
  rw [e]; exact hc
end
end Go.Proofs.Ytfjfbapiheehaaa.V
namespace Go.Proofs.Ytfjfbapiheehaaa.V
open Go Go.RowKit Go.Proofs.Ytfjfbapiheehaaa.Comm
def cutAt (i : Nat) : List (Nat × Oper) → Option (Oper × List (Nat × Oper) × List (Nat × Oper) × List (Nat × Oper))
 | [] => none
 | (j, o) :: l => match Nat.beq j i with
  | true => some (o, [], l, l)
  | false => match cutAt i l with
   | some (o', dl, pl, q) => some (o', (j, o) :: dl, pl, (j, o) :: q)
   | none => none
theorem cutAt_eq {i : Nat} {l : List (Nat × Oper)} : ∀ {o : Oper} {dl pl q : List (Nat × Oper)}, cutAt i l = some (o, dl, pl, q) → l = dl ++ (i, o) :: pl ∧ q = dl ++ pl := by
 induction l with
 | nil => intro o dl pl q h; cases h
 | cons p l ih =>
  obtain ⟨j, p⟩ := p
  intro o dl pl q h
  unfold cutAt at h
  cases hb : Nat.beq j i with
  | true =>
   rw [hb] at h
   obtain ⟨rfl, rfl, rfl, rfl⟩ := Option.some.inj h
   obtain rfl := Nat.eq_of_beq_eq_true hb
   exact ⟨rfl, rfl⟩
  | false =>
   rw [hb] at h
   cases hc : cutAt i l with
   | none => rw [hc] at h; cases h
   | some t =>
    obtain ⟨o', dl', pl', q'⟩ := t
    rw [hc] at h
    obtain ⟨rfl, rfl, rfl, rfl⟩ := Option.some.inj h
    obtain ⟨h1, h2⟩ := ih hc
    rw [h1, h2]; exact ⟨rfl, rfl⟩
section
variable {P : Program} {n : Nat} {cx : Cx} {Q : VExit → St → Prop} {st : St} {ops : Array Oper} {K : St → Prop} {E : List PanicEntry → St → Prop} {i : Nat} {o : Oper} {dl pl pend q : List (Nat × Oper)} {ph : Bool} {m : List Nat} {s : List (Nat × V)} {h : Heap} {x dd : Nat}
def VMv (P : Program) (n : Nat) (cx : Cx) (m : List Nat) (ops : Array Oper) (K : St → Prop) (E : List PanicEntry → St → Prop) (pend : List (Nat × Oper)) (i : Nat) (st : St) : Prop :=
 ∃ o dl pl, pend = dl ++ (i, o) :: pl ∧ ∀ (b : Began) g a w, dstOk n ops = true → pendOk ops pend → Rep n cx g st a w → Link m b g st.h st.x w →
  wpOp P ops (lift n cx (opost K E)) i (fun a' w' => SB m b w' ∧ wpAnyH P .any ops (lift n cx (opost K E)) (SB m b) (dl ++ pl).length ((listedOf ops.size pend).setIfInBounds i true) a' w') a w
theorem VAny.moves {is : List Nat} (hr : readyAt ops dl = is) (hz : is ≠ []) (hne : dl.length = dl.length.pred + 1) (h : ∀ i ∈ is, VMv P n cx m ops K E dl i st) : VAny P n cx ph m ops K E dl [] st := by
 have key : dstOk n ops = true → pendOk ops dl → ∀ g a w, Rep n cx g st a w → ∀ b : Began, Link m b g st.h st.x w → wpAnyH P .any ops (lift n cx (opost K E)) (SB m b) dl.length (listedOf ops.size dl) a w := by
  intro hn hp g a w r b hb
  rw [hne]
  refine wpAnyH_all hr hz (fun j hj => ?_)
  obtain ⟨o, dl', pl', e, hk⟩ := h j hj
  have := hk b g a w hn hp r hb
  have e2 : (dl' ++ pl').length = dl.length.pred := by
   have := congrArg List.length e
   simp at this ⊢; omega
  rw [e2] at this
  exact this
 intro hn hp g a w r
 rw [List.append_nil] at hp ⊢
 cases ph with
 | true => exact key hn hp g a w r _ (.start r)
 | false => exact fun b hb => key hn hp g a w r b hb
theorem all1 {α : Type} {p : α → Prop} {a : α} (h : p a) : ∀ i ∈ [a], p i := fun i hi => by obtain rfl := List.mem_singleton.1 hi; exact h
theorem allC {α : Type} {p : α → Prop} {a : α} {l : List α} (h : p a) (t : ∀ i ∈ l, p i) : ∀ i ∈ a :: l, p i := fun i hi => by
 rcases List.mem_cons.1 hi with rfl | hi
 ·exact h
 ·exact t i hi
theorem VMv.mk {m' : List Nat} {Ko : V → Heap → Nat → Prop} (he : cutAt i pend = some (o, dl, pl, q)) (hm : (m'.all fun k => m.contains k) = true) (hw : wantedV ops o st.s = some true) (h1 : VOp P n cx m' o Ko E st) (h2 : ∀ v h' x', Ko v h' x' → VAny P n cx false m ops K E [] q ⟨putS o.dst v st.s, h', x'⟩) : VMv P n cx m ops K E pend i st := by
 obtain ⟨he, hq⟩ := cutAt_eq he
 subst he hq
 have hm : ∀ k ∈ m', k ∈ m := by simpa [List.all_eq_true] using hm
 exact ⟨o, dl, pl, rfl, fun b g a w hn hp r hb => vany_step hm hw h1 (fun v h' x' hk => by
  have := h2 v h' x' hk
  intro hn hp g a w r
  exact this hn hp g a w r) hn hp r hb⟩
theorem VMv.oo {m' : List Nat} {hh : Heap} {xx d : Nat} {v : V} (he : cutAt i pend = some (o, dl, pl, q)) (hw : wantedV ops o s = some true) (hm : (m'.all fun k => m.contains k) = true) (hd : o.dst = some d) (h1 : VOp P n cx m' o (fun v' h' x' => v' = v ∧ h' = hh ∧ x' = xx) E ⟨s, h, x⟩) (h2 : VAny P n cx false m ops K E [] q ⟨(d, v) :: s, hh, xx⟩) : VMv P n cx m ops K E pend i ⟨s, h, x⟩ :=
 VMv.mk he hm hw h1 (by rintro v' h' x' ⟨rfl, rfl, rfl⟩; rw [hd]; exact h2)
theorem VMv.oo0 {m' : List Nat} {hh : Heap} {xx : Nat} {v : V} (he : cutAt i pend = some (o, dl, pl, q)) (hw : wantedV ops o s = some true) (hm : (m'.all fun k => m.contains k) = true) (hd : o.dst = none) (h1 : VOp P n cx m' o (fun v' h' x' => v' = v ∧ h' = hh ∧ x' = xx) E ⟨s, h, x⟩) (h2 : VAny P n cx false m ops K E [] q ⟨s, hh, xx⟩) : VMv P n cx m ops K E pend i ⟨s, h, x⟩ :=
 VMv.mk he hm hw h1 (by rintro v' h' x' ⟨rfl, rfl, rfl⟩; rw [hd]; exact h2)
theorem VMv.alloc {t : TypeId} {d : TypeDesc} {sz b : Nat} {z : Value} {cs : List V} (he : cutAt i pend = some (o, dl, pl, q)) (ho : o.op = .alloc t) (hw : wantedV ops o s = some true) (hd : o.dst = some dd) [ht : TI P t d sz b z] (hz : z.cells.all Value.oneCell' = true) (hcs : z.cells.toList.map V.val = cs)
  (h2 : VAny P n cx false m ops K E [] q ⟨(dd, .ptr x 0) :: s, (x, .cells t cs) :: h, x + 1⟩) : VMv P n cx m ops K E pend i ⟨s, h, x⟩ := VMv.oo he hw rfl hd (VOp.alloc ho hz) (by rw [hcs]; exact h2)
theorem VMv.store {t t' : TypeId} {p y : Operand} {id off : Nat} {cs cs' : List V} {v : V} {d : TypeDesc} {sz b : Nat} {z : Value} (he : cutAt i pend = some (o, dl, pl, q)) (ho : o.op = .store t p y) (hw : wantedV ops o s = some true) (hm : ([id].all fun k => m.contains k) = true) (hd : o.dst = none) (hp : ev s p = some (.ptr id off)) (hx : ev s y = some v) (hh : lk h id = some (.cells t' cs)) [ht : TI P t d sz b z]
  (hv : (flat v).all V.single = true) (hl : (flat v).length = sz) (hin : off + sz ≤ cs.length) (hc : splice cs off (flat v) = cs')
  (h2 : VAny P n cx false m ops K E [] q ⟨s, (id, .cells t' cs') :: h, x⟩) : VMv P n cx m ops K E pend i ⟨s, h, x⟩ := VMv.oo0 he hw hm hd (VOp.store ho hp hx hh hv hl hin) (by rw [hc]; exact h2)
theorem VMv.one {t e : TypeId} {sz b s' b' : Nat} {z z' : Value} {d' : TypeDesc} {y : Operand} {v : V} {ds : List D} (he : cutAt i pend = some (o, dl, pl, q)) (ho : o.op = .buildSlice t 1 #[(0, y)]) (hw : wantedV ops o s = some true) (hd : o.dst = some dd) [ht : TI P t (.slice e) sz b z] [he' : TI P e d' s' b' z'] (hz : z'.cells.size = s') (hs' : s' ≤ 1000) (hs0 : 0 < s') (hx : ev s y = some v) (hl : (flat v).length = s') (hds : toDs (flat v) = some ds)
  (h2 : VAny P n cx false m ops K E [] q ⟨(dd, .ref x) :: s, (x, .arr e s' [ds]) :: h, x + 1⟩) : VMv P n cx m ops K E pend i ⟨s, h, x⟩ := VMv.oo he hw rfl hd (VOp.one ho hz hs' hs0 hx hl hds) h2
theorem VMv.lit {t e : TypeId} {sz b s' b' : Nat} {z z' : Value} {d' : TypeDesc} {len : Nat} {parts : Array (Nat × Operand)} {qs : List (Nat × V)} {cs : List V} {ds : List D} {rows : List (List D)} (he : cutAt i pend = some (o, dl, pl, q)) (ho : o.op = .buildSlice t len parts) (hw : wantedV ops o s = some true) (hd : o.dst = some dd) [ht : TI P t (.slice e) sz b z] [he' : TI P e d' s' b' z'] (hz : z'.cells.all Value.oneCell' = true) (hzs : z'.cells.size = s') (hs0 : 0 < s') (hs' : len * s' ≤ 100000)
  (hqs : evParts s parts.toList = some qs) (hf : fillV (fun i => some (i * s', s')) ((List.range (len * s')).map fun k => .val (z'.cells.toList.getD (k % s') undef)) qs = some cs) (hds : toDs cs = some ds) (hdl : ds.length = len * s') (hrow : chunk s' len ds = rows)
  (h2 : VAny P n cx false m ops K E [] q ⟨(dd, .ref x) :: s, (x, .arr e s' rows) :: h, x + 1⟩) : VMv P n cx m ops K E pend i ⟨s, h, x⟩ := VMv.oo he hw rfl hd (VOp.lit ho hz hzs hs0 hs' hqs hf hds hdl) (by rw [hrow]; exact h2)
theorem VMv.append {t e : TypeId} {zs : List (List D)} {sz b s' b' : Nat} {z z' : Value} {d' : TypeDesc} {p p' : Operand} {u v : V} {xs ys : List (List D)} {old : Option Nat} {h' : Heap} (he : cutAt i pend = some (o, dl, pl, q)) (ho : o.op = .call { callee := .builtin .append, args := #[p, p'], argTypes := #[t, t] }) (hw : wantedV ops o s = some true) (hd : o.dst = some dd) [ht : TI P t (.slice e) sz b z] [he' : TI P e d' s' b' z'] (hz : z'.cells.size = s') (hs0 : 0 < s')
  (hp : ev s p = some u) (hb : Base h u e s' xs old) (hm : (old.toList.all fun k => m.contains k) = true) (hq : ev s p' = some v) (hsrc : Src h v s' ys) (hl : (xs.length + ys.length) * b' ≤ most) (hl' : xs.length + ys.length ≤ most) (hg : gone old h = h') (hzs : xs ++ ys = zs)
  (h2 : VAny P n cx false m ops K E [] q ⟨(dd, .ref x) :: s, (x, .arr e s' zs) :: h', x + 1⟩) : VMv P n cx m ops K E pend i ⟨s, h, x⟩ := VMv.oo he hw hm hd (VOp.append ho hz hs0 hp hb hq hsrc hl hl') (by rw [hg, hzs]; exact h2)
theorem VMv.pure {y : Operand} {xs : Array Operand} {ts : Array TypeId} {f : FuncId} {fn : Func} {vs us caps : List V} {r : V} (he : cutAt i pend = some (o, dl, pl, q)) (ho : o.op = .call { callee := .value y, args := xs, argTypes := ts }) (hf : P.funcs[f]? = some fn) (hw : wantedV ops o s = some true) (hd : o.dst = some dd)
  (hb : fn.body.isSome = true) (hnm : (fn.name == "runtime.NumGoroutine") = false) (hx : ev s y = some (.fn f caps)) (hv : evs s xs.toList = some vs) (hu : V.lendL h (vs ++ caps) = us) (hr : r.dry = true) (hc : VCalls P f us [] 0 (Gives r))
  (h2 : VAny P n cx false m ops K E [] q ⟨(dd, r) :: s, h, x⟩) : VMv P n cx m ops K E pend i ⟨s, h, x⟩ := VMv.oo he hw rfl hd (VOp.pure ho hf hb hnm hx hv hu hr hc) h2
theorem VAny.pureI {v : V} {d : Nat} (he : cutAt i pend = some (o, dl, pl, q)) (hw : wantedV ops o s = some true) (hs : takeAt ops pend i = true) (hd : o.dst = some d) (h1 : VPure P n cx o ⟨s, h, x⟩ v) (h2 : VAny P n cx ph m ops K E [] q ⟨(d, v) :: s, h, x⟩) : VAny P n cx ph m ops K E [] pend ⟨s, h, x⟩ := by
 obtain ⟨he, hq⟩ := cutAt_eq he
 subst he hq
 exact VAny.pure (dl := dl) (pl := pl) hw hs hd h1 h2
theorem VAny.loadI {v : V} {d : Nat} (he : cutAt i pend = some (o, dl, pl, q)) (hw : wantedV ops o s = some true) (hs : takeAt ops pend i = true) (hd : o.dst = some d) (h1 : VLoad P n cx m o ⟨s, h, x⟩ v) (h2 : VAny P n cx true m ops K E [] q ⟨(d, v) :: s, h, x⟩) : VAny P n cx true m ops K E [] pend ⟨s, h, x⟩ := by
 obtain ⟨he, hq⟩ := cutAt_eq he
 subst he hq
 exact VAny.load (dl := dl) (pl := pl) hw hs hd h1 h2
theorem VAny.passI {d : Nat} (he : cutAt i pend = some (o, dl, pl, q)) (hw : wantedV ops o s = some false) (hs : takeAt ops pend i = true) (hd : o.dst = some d) (h2 : VAny P n cx ph m ops K E [] q ⟨(d, .tup []) :: s, h, x⟩) : VAny P n cx ph m ops K E [] pend ⟨s, h, x⟩ := by
 obtain ⟨he, hq⟩ := cutAt_eq he
 subst he hq
 exact VAny.pass (dl := dl) (pl := pl) hw hs hd h2
theorem VAny.movesI {is : List Nat} (hr : readyAt ops pend = is) (hz : is ≠ []) (hne : pend.length = pend.length.pred + 1) (h : ∀ i ∈ is, VMv P n cx m ops K E pend i st) : VAny P n cx ph m ops K E [] pend st := by
 intro hn hp g a w r
 have := VAny.moves (ph := ph) hr hz hne h hn (by rw [List.append_nil]; exact hp) g a w r
 simpa only [List.append_nil, List.nil_append] using this
theorem VCode.lessTo {c : Code} (st' : St) (h : Less cx (fun st => st = st') st) (h2 : VCode P n cx c Q st') : VCode P n cx c Q st :=
 VCode.less (let ⟨l, s', a, b, c, d⟩ := h; ⟨l, s', a, b, c, d ▸ h2⟩)
theorem VCode.thenTo {x y : Code} (st' : St) (h : VCode P n cx x (VThen (Less cx fun st => st = st') Q) st) (h2 : VCode P n cx y Q st') : VCode P n cx x (VThen (VCode P n cx y Q) Q) st :=
 h.mono fun e s hq => by
  cases e with
  | normal => exact VCode.less (let ⟨l, s', a, b, c, d⟩ := hq; ⟨l, s', a, b, c, d ▸ h2⟩)
  | exit id => exact hq
  | ret => exact hq
  | panic c => exact hq
end
end Go.Proofs.Ytfjfbapiheehaaa.V
namespace Go.Proofs.Ytfjfbapiheehaaa.V
open Go Go.RowKit Go.Proofs.YtfjfbapiheehaaaW.PrintWords
section
variable {P : Program} {n : Nat} {cx : Cx} {Q : VExit → St → Prop} {s : List (Nat × V)} {h : Heap} {x : Nat}
theorem Rep.nil0 {g : Nat → Value} {a : Act} {w : World} (r : Rep n cx g ⟨s, h, x⟩ a w) (t : TypeId) (sz : Nat) : Rep n cx (setG g x (.slice none 0 0)) ⟨s, (x, .arr t sz []) :: h, x + 1⟩ a w ∧ gvOf ((x, .arr t sz []) :: h) (setG g x (.slice none 0 0)) x = some (.slice none 0 0) := by
 have hv' : ∀ k, Blk (.slice none 0 0) k → w.heap.size ≤ k ∧ k < w.heap.size ∨ Blk (.slice none 0 0) k := fun k hk => .inr hk
 have ho : OldAt h g none (.slice none 0 0) none := ⟨rfl, fun k hk => by have := hk.inv rfl; cases this⟩
 have hn : Next h g x w ((x, .arr t sz []) :: h) (setG g x (.slice none 0 0)) (x + 1) w := move_next (old := none) (v := .slice none 0 0) r.h ho (World.grownBy.refl _ _) rfl hv'
 have hh : HRep cx (setG g x (.slice none 0 0)) ((x, .arr t sz []) :: h) (x + 1) w := HRep.move (old := none) (v := .slice none 0 0) r.h ho (World.grownBy.refl _ _) rfl hv'
  (.arr t sz [] _ [] (World.ownsRow_nil _ _ _ _) (fun row h => by cases h) (Nat.zero_le _) (fun m h => by cases h) (fun i j d h => by simp at h))
 exact ⟨⟨hh, r.size, r.defers, fun e u hu => hn.v (r.s e u hu)⟩, gv_new rfl⟩
theorem VCode.nilObj {c : Code} (d : Nat) (t : TypeId) (sz : Nat) (hd : lk s d = some (.val (.slice none 0 0))) (H : VCode P n cx c Q ⟨(d, .ref x) :: s, (x, .arr t sz []) :: h, x + 1⟩) : VCode P n cx c Q ⟨s, h, x⟩ := fun g a w r => by
 obtain ⟨r', hx⟩ := r.nil0 t sz
 refine H _ a w ⟨r'.h, r'.size, r'.defers, fun e u hu => ?_⟩
 by_cases he : d = e
 ·subst he
  rw [show lk ((d, V.ref x) :: s) d = some (.ref x) from lk_same _ _ _] at hu
  obtain rfl := Option.some.inj hu
  have hm := (r.s d _ hd).val_inv
  rw [hm]
  exact .ref x _ (Nat.lt_succ_self _) rfl (fun v hv => by rw [hx] at hv; obtain rfl := Option.some.inj hv; rfl)
 ·rw [show lk ((d, V.ref x) :: s) e = lk s e from lk_other _ _ he] at hu
  exact r'.s e u hu
theorem Rep.osays {g : Nat → Value} {a : Act} {w : World} {id : Nat} {o o' : O} (r : Rep n cx g ⟨s, h, x⟩ a w) (hl : lk h id = some o) (h1 : o.live = true) (h2 : o'.live = true) (hi : ORep (Rd cx.z h g w) (gvOf h g) x w o (g id) → ORep (Rd cx.z h g w) (gvOf h g) x w o' (g id)) : Rep n cx g ⟨s, (id, o') :: h, x⟩ a w := by
 have e : gvOf ((id, o') :: h) g = gvOf h g := funext fun i => by
  unfold gvOf
  by_cases hi : id = i
  ·subst hi; rw [lk_same, hl]; simp [h1, h2]
  ·rw [lk_other _ _ hi]
 have eo : Own ((id, o') :: h) g = Own h g := by unfold Own; rw [e]
 have er : Rd cx.z ((id, o') :: h) g w = Rd cx.z h g w := funext fun ad => funext fun v => propext ⟨fun q => ⟨q.z, by rw [← eo]; exact q.own, q.cell⟩, fun q => ⟨q.z, by rw [eo]; exact q.own, q.cell⟩⟩
 have hh := r.h
 refine ⟨⟨hh.os, hh.tape, hh.output, hh.size, hh.old, ?_, ?_, ?_, ?_, hh.low, hh.apz⟩, r.size, r.defers, ?_⟩
 ·intro i v hv
  show i < x ∧ ∃ p, lk ((id, o') :: h) i = some p ∧ ORep (Rd cx.z ((id, o') :: h) g w) (gvOf ((id, o') :: h) g) x w p v
  rw [e, er]
  have hv : gvOf ((id, o') :: h) g i = some v := hv
  rw [e] at hv
  obtain ⟨h3, p, h4, h5⟩ := hh.obj i v hv
  refine ⟨h3, ?_⟩
  by_cases hid : id = i
  ·subst hid
   refine ⟨o', lk_same _ _ _, ?_⟩
   have h4 : lk h id = some p := h4
   rw [hl] at h4
   obtain rfl := Option.some.inj h4
   have hg : v = g id := by
    unfold gvOf at hv
    rw [hl] at hv
    simp [h1] at hv
    exact hv.symm
   subst hg
   exact hi h5
  ·exact ⟨p, by rw [lk_other _ _ hid]; exact h4, h5⟩
 ·show ∀ i i' v v' k, gvOf ((id, o') :: h) g i = some v → gvOf ((id, o') :: h) g i' = some v' → Blk v k → Blk v' k → i = i'
  rw [e]; exact hh.apart
 ·show ∀ i v k, gvOf ((id, o') :: h) g i = some v → Blk v k → k < w.heap.size ∧ (cx.own k ∨ cx.w.heap.size ≤ k)
  rw [e]; exact hh.mine
 ·show ∀ i v, i < cx.x → gvOf ((id, o') :: h) g i = some v → cx.gv i = some v
  rw [e]; exact hh.first
 ·intro d u hu
  show VRep (Rd cx.z ((id, o') :: h) g w) (gvOf ((id, o') :: h) g) x u _
  rw [e, er]
  exact r.s d u hu
theorem VCode.nilCell {c : Code} {id : Nat} {t' : TypeId} {cs : List V} (j : Nat) (t : TypeId) (sz : Nat) {cs' : List V} (hl : lk h id = some (.cells t' cs)) (hj : cs[j]? = some (.val (.slice none 0 0))) (hne : Nat.beq x id = false) (hcs : cs.set j (.ref x) = cs') (H : VCode P n cx c Q ⟨s, (id, .cells t' cs') :: (x, .arr t sz []) :: h, x + 1⟩) : VCode P n cx c Q ⟨s, h, x⟩ := fun g a w r => by
 obtain ⟨r', hx⟩ := r.nil0 t sz
 have hne : x ≠ id := fun e => by rw [e, Nat.beq_refl] at hne; cases hne
 refine H _ a w (Rep.osays (o := .cells t' cs) r' (by rw [lk_other _ _ hne]; exact hl) rfl rfl ?_)
 generalize setG g x (.slice none 0 0) id = v
 rintro (_ | _)
 rename_i b ms h3 h1 h2 h4
 subst hcs
 refine .cells t' _ b ms h1 (by rw [List.length_set]; exact h2) h3 (fun i u m hu hm => ?_)
 rw [List.getElem?_set] at hu
 by_cases hi : j = i
 ·subst hi
  have hlt := (List.getElem?_eq_some_iff.1 hj).1
  rw [if_pos rfl, if_pos hlt] at hu
  obtain rfl := Option.some.inj hu
  have hm' := (h4 j _ m hj hm).val_inv
  rw [hm']
  exact .ref x _ (Nat.lt_succ_self _) rfl (fun v hv => by rw [hx] at hv; obtain rfl := Option.some.inj hv; rfl)
 ·rw [if_neg hi] at hu
  exact h4 i u m hu hm
theorem VCode.same {c : Code} {st : St} (h : VCode P n cx c Q st) : VCode P n cx c Q st := h
theorem VOps.same {dr : Nat} {m : List Nat} {ops : Array Oper} {K : St → Prop} {E : List PanicEntry → St → Prop} {i : Nat} {l : List Oper} {st : St} (h : VOps P n cx dr m ops K E i l st) : VOps P n cx dr m ops K E i l st := h
end
end Go.Proofs.Ytfjfbapiheehaaa.V
namespace Go.Proofs.Ytfjfbapiheehaaa.V
open Go Go.RowKit
theorem VRep.low {R R' : Addr → Value → Prop} {gv gv' : Nat → Option Value} {x x' : Nat} (hR : ∀ a v, R a v → R' a v) {v : V} {m : Value} (h : VRep R gv x v m) (hl : v.lt 0 = true) : VRep R' gv' x' v m := by
 induction h with
 | val v h => exact .val v h
 | sl sz xs m h => exact .sl sz xs m (h.mono hR)
 | agg cs ms h1 _ ih => exact .agg cs ms h1 (fun i c m hc hm => ih i c m hc hm (ltL_get hl i c hc))
 | tup cs ms h1 _ ih => exact .tup cs ms h1 (fun i c m hc hm => ih i c m hc hm (ltL_get hl i c hc))
 | fn f cs ms h1 _ ih => exact .fn f cs ms h1 (fun i c m hc hm => ih i c m hc hm (ltL_get hl i c hc))
 | el cs ad h => exact .el cs ad (fun j d hj => let ⟨m, hm, hd⟩ := h j d hj; ⟨m, hR _ _ hm, hd.mono hR⟩)
 | junk m => exact .junk m
 | ref id m h1 h0 h2 => simp [V.lt] at hl
 | ptr id off m h1 h0 h2 => simp [V.lt] at hl
 | ael id pos m h1 h0 h2 => simp [V.lt] at hl
theorem HRep.drop {z : Nat → Prop} {g g' : Nat → Value} {h' : Heap} {x' : Nat} {w w' : World} (hh : HRep (cxOf z g [] 0 w) g' h' x' w') : HRep (cxOf z g [] 0 w) g' [] 0 w' :=
 ⟨hh.os, hh.tape, hh.output, hh.size, hh.old, fun _ _ h => by simp [gvOf, lk] at h, fun _ _ _ _ _ h => by simp [gvOf, lk] at h, fun _ _ _ h => by simp [gvOf, lk] at h, fun _ _ _ h => by simp [gvOf, lk] at h, Nat.le_refl _, hh.apz⟩
theorem VCalls.drop {P : Program} {f : FuncId} {args : List V} {r : V} (hc : VCalls P f args [] 0 (fun o _ _ => o = .ret r)) (hr : r.lt 0 = true) : VCalls P f args [] 0 (Gives r) := fun z g w ms h1 h2 h3 => by
 refine (hc z g w ms h1 h2 h3).mono ?_
 rintro e w' ⟨g', h', x', out, hh, ho, rfl⟩
 refine ⟨g', [], 0, .ret r, hh.drop, ?_, rfl, rfl, rfl⟩
 cases e with
 | returned v =>
  have ho : VRep _ _ _ _ v := ho
  exact ho.low (fun a v h => ⟨h.z, fun ⟨_, _, k, _⟩ => by simp [gvOf, lk] at k, h.cell⟩) hr
 | _ => exact absurd ho (by simp [outRep])
theorem VCalls.enterD {P : Program} {f : FuncId} {fn : Func} {c : Code} {n : Nat} {args : List V} {r : V} (hf : P.funcs[f]? = some fn) (hb : fn.body = some c) (hn : fn.ntmps = n) (ha : args.length ≤ n) (hr : r.lt 0 = true)
  (H : ∀ cx : Cx, cx.x = 0 → VCode P n cx c (retPost P fn (fun o _ _ => o = .ret r)) ⟨argS 0 args, [], 0⟩) : VCalls P f args [] 0 (Gives r) := (VCalls.enter hf hb hn ha H).drop hr
section
variable {P : Program} {n : Nat} {cx : Cx} {Q : VExit → St → Prop} {s : List (Nat × V)} {h : Heap} {x : Nat}
theorem VCode.retD {st : St} {fn : Func} {r : V} {rs : List ResultVar} {vs : List V} (hQ : Q .ret = retPost P fn (fun o _ _ => o = .ret r) .ret) (hr : fn.results.toList = rs) (hv : RVals P st rs vs) (e : oneV vs = r) : VCode P n cx .ret Q st := by
 refine VCode.ret ?_
 rw [hQ]
 exact ⟨vs, by rw [hr]; exact hv, by rw [e]⟩
theorem VCode.osays {c : Code} (id : Nat) {o : O} (o' : O) (hl : lk h id = some o) (h1 : o.live = true) (h2 : o'.live = true) (hi : ∀ (R : Addr → Value → Prop) (gv : Nat → Option Value) (y : Nat) (w : World) (u : Value), ORep R gv y w o u → ORep R gv y w o' u) (H : VCode P n cx c Q ⟨s, (id, o') :: h, x⟩) : VCode P n cx c Q ⟨s, h, x⟩ := fun g a w r =>
 H g a w (Rep.osays r hl h1 h2 (hi _ _ _ _ _))
theorem VCode.hsays {c : Code} (id : Nat) {o : O} (o' : O) (hl : lk h id = some o) (h1 : o.live = true) (e : o = o') (H : VCode P n cx c Q ⟨s, (id, o') :: h, x⟩) : VCode P n cx c Q ⟨s, h, x⟩ := by
 subst e
 exact VCode.osays id o hl h1 h1 (fun _ _ _ _ _ k => k) H
theorem nil_sl {R : Addr → Value → Prop} {gv : Nat → Option Value} {y : Nat} {m : Value} (sz : Nat) (h : VRep R gv y (.val (.slice none 0 0)) m) : VRep R gv y (.sl sz []) m := by
 rw [h.val_inv]; exact .sl _ _ _ (.nil sz none 0)
theorem VCode.nilS {c : Code} (d sz : Nat) (hd : lk s d = some (.val (.slice none 0 0))) (H : VCode P n cx c Q ⟨(d, .sl sz []) :: s, h, x⟩) : VCode P n cx c Q ⟨s, h, x⟩ := fun g a w r => by
 refine H g a w ⟨r.h, r.size, r.defers, fun e u hu => ?_⟩
 by_cases he : d = e
 ·subst he
  rw [show lk ((d, V.sl sz []) :: s) d = some (.sl sz []) from lk_same _ _ _] at hu
  obtain rfl := Option.some.inj hu
  exact nil_sl sz (r.s d _ hd)
 ·rw [show lk ((d, V.sl sz []) :: s) e = lk s e from lk_other _ _ he] at hu
  exact r.s e u hu
end
end Go.Proofs.Ytfjfbapiheehaaa.V
namespace Go.Proofs.Ytfjfbapiheehaaa.V
open Go Go.RowKit
section
variable {P : Program} {n : Nat} {cx : Cx} {st : St} {o : Oper} {E : List PanicEntry → St → Prop}
theorem made_get {z : Array Value} {k s i j : Nat} (hz : z.size = s) (hs0 : 0 < s) (hi : i < k) (hj : j < s) : (madeCells z (k * s)).toList[i * s + j]? = z[j]? := by
 have hlt : i * s + j < k * s := by
  have : (i + 1) * s ≤ k * s := Nat.mul_le_mul_right s hi
  rw [Nat.add_mul, Nat.one_mul] at this; omega
 unfold madeCells
 rw [Array.getElem?_toList, Array.getElem?_map, Array.getElem?_range, if_pos hlt, hz]
 have e : (i * s + j) % s = j := by rw [Nat.mul_comm, Nat.mul_add_mod]; exact Nat.mod_eq_of_lt hj
 rw [Option.map_some, e, getElem!_pos z j (by omega), Array.getElem?_eq_getElem (by omega)]
theorem VOp.make {t e : TypeId} {s b s' b' : Nat} {z z' : Value} {d' : TypeDesc} {l c : Operand} {k k' : IntKind} {m : Nat} (ho : o.op = .makeSlice t l c) [ht : TI P t (.slice e) s b z] [he : TI P e d' s' b' z'] (hz : z'.cells.all Value.oneCell' = true) (hzs : z'.cells.size = s') (hs0 : 0 < s')
  (hl : ev st.s l = some (.val (.int k (m : Int)))) (hc : ev st.s c = some (.val (.int k' (m : Int)))) (hb : b' * m ≤ most) (hm : m ≤ most) :
  VOp P n cx [] o (fun v' h' x' => v' = .ref st.x ∧ h' = (st.x, .arr e s' (List.replicate m (z'.cells.toList.map D.val))) :: st.h ∧ x' = st.x + 1) E st := by
 refine VOp.of_new rfl (fun R gv u h1 h2 => ref_new h1 (by cases u <;> first | rfl | cases h2)) (fun g a w r => ?_)
 obtain ⟨i, hi, hisz, hiby, hiz⟩ := he.info
 have hb' : (i.bytes : Int) * (m : Int) ≤ 281474976710656 := by
  have h : ((i.bytes * m : Nat) : Int) ≤ 281474976710656 := by rw [hiby]; simp only [most] at hb; omega
  rwa [Int.natCast_mul] at h
 have hr := run_make (P := P) w t e i z' ht.und hi hiz k k' (m : Int) (m : Int) (by omega) (Int.le_refl _) hb' (by simp only [most] at hm; omega)
 rw [Int.toNat_natCast, hisz] at hr
 have e1 := (ev_rep r hl).val_inv
 have e2 := (ev_rep r hc).val_inv
 have hsz : (madeCells z'.cells (m * s')).size = m * s' := size_madeCells _ _
 have hone : ∀ v ∈ z'.cells, v.oneCell' = true := fun v hv => Array.all_eq_true'.1 hz v hv
 refine ⟨.cells (madeCells z'.cells (m * s')) e, .slice (some ⟨w.heap.size, 0, none⟩) m m, ?_, rfl, ?_⟩
 ·unfold execOp; rw [ho]
  simp [e1, e2, hr, Result.andThen]
 ·refine .arr e s' _ _ (madeCells z'.cells (m * s')).toList ⟨by rw [Array.length_toList, hsz, List.length_replicate], .inr ⟨w.heap.size, m, _, by rw [List.length_replicate], Nat.zero_le _, heap_alloc_new w _, by rw [List.length_replicate]; exact Nat.le_refl _, by simp only [maxLen]; simp only [most] at hm; omega, hsz, by rw [List.length_replicate]; exact List.take_of_length_le (by rw [Array.length_toList, hsz]; exact Nat.le_refl _)⟩⟩ ?_ (by rw [List.length_replicate]; exact hm) ?_ ?_
  ·intro row hrow
   obtain rfl := List.eq_of_mem_replicate hrow
   rw [List.length_map, Array.length_toList, hzs]
  ·intro v hv
   rw [Array.mem_toList_iff] at hv
   unfold madeCells at hv
   obtain ⟨q, _, rfl⟩ := Array.mem_map.1 hv
   have hlt : q % z'.cells.size < z'.cells.size := Nat.mod_lt _ (by omega)
   rw [getElem!_pos z'.cells _ hlt]
   exact hone _ (Array.getElem_mem hlt)
  ·intro i j d hd
   rw [List.getElem?_replicate] at hd
   split at hd
   ·rename_i hi
    simp only [Option.bind_some, List.getElem?_map, Array.getElem?_toList] at hd
    cases hj : z'.cells[j]? with
    | none => rw [hj] at hd; cases hd
    | some v =>
     rw [hj] at hd
     obtain rfl := Option.some.inj hd
     have hjlt := (Array.getElem?_eq_some_iff.1 hj).1
     refine ⟨v, by rw [made_get hzs hs0 hi (by omega)]; exact hj, .val _ (hone _ (Array.mem_of_getElem? hj))⟩
   ·cases hd
end
section
variable {P : Program} {n : Nat} {cx : Cx} {ops : Array Oper} {K : St → Prop} {E : List PanicEntry → St → Prop} {i : Nat} {o : Oper} {rest : List Oper} {s : List (Nat × V)} {h : Heap} {x dd dr : Nat} {m : List Nat}
theorem VOps.make {t e : TypeId} {sz b s' b' : Nat} {z z' : Value} {d' : TypeDesc} {l c : Operand} {k k' : IntKind} {q : Nat} {α : Type} {f : α → List D} {a : α} (ho : o.op = .makeSlice t l c) (hw : wantedV ops o s = some true) (hs : okM dr ops i m [] = true) (hd : o.dst = some dd) [ht : TI P t (.slice e) sz b z] [he : TI P e d' s' b' z'] (hz : z'.cells.all Value.oneCell' = true) (hzs : z'.cells.size = s') (hs0 : 0 < s')
  (hl : ev s l = some (.val (.int k (q : Int)))) (hc : ev s c = some (.val (.int k' (q : Int)))) (hb : b' * q ≤ most) (hm : q ≤ most) (hf : z'.cells.toList.map D.val = f a)
  (h2 : VOps P n cx (nxt dr) m ops K E (i + 1) rest ⟨(dd, .ref x) :: s, (x, .arr e s' ((List.replicate q a).map f)) :: h, x + 1⟩) : VOps P n cx dr m ops K E i (o :: rest) ⟨s, h, x⟩ :=
 VOps.oo hw hs hd (VOp.make ho hz hzs hs0 hl hc hb hm) (by rw [hf]; rw [List.map_replicate] at h2; exact h2)
theorem VOps.store_arrm {α : Type} {f : α → List D} {xs ys : List α} {u u' : α} {t e' : TypeId} {p y : Operand} {id pos k j sz : Nat} {ds : List D} {v : V} {d : TypeDesc} {sz' b : Nat} {z : Value} (ho : o.op = .store t p y) (hw : wantedV ops o s = some true) (hs : okM dr ops i m [id] = true) (hd : o.dst = none) (hp : ev s p = some (.ael id pos)) (hx : ev s y = some v) (hh : lk h id = some (.arr e' sz (xs.map f))) (hpos : pos = k * sz + j) (hrow : xs[k]? = some u) [ht : TI P t d sz' b z]
  (hds : toDs (flat v) = some ds) (hl : (flat v).length = sz') (hin : j + sz' ≤ sz) (hu' : splice (f u) j ds = f u') (hys : xs.set k u' = ys)
  (h2 : VOps P n cx (nxt dr) m ops K E (i + 1) rest ⟨s, (id, .arr e' sz (ys.map f)) :: h, x⟩) : VOps P n cx dr m ops K E i (o :: rest) ⟨s, h, x⟩ :=
 VOps.store_arr ho hw hs hd hp hx hh hpos (by rw [List.getElem?_map, hrow]; rfl) hds hl hin (by rw [hu', ← List.map_set, hys]; exact h2)
end
end Go.Proofs.Ytfjfbapiheehaaa.V
namespace Go.Proofs.Ytfjfbapiheehaaa.V
open Go Go.Conc Go.RowKit Go.Proofs.Ytfjfbapiheehaaa.Comm
def cellV : List D → V
 | [d] => d.toV
 | ds => .agg (ds.map D.toV)
theorem cellRep_V {R : Addr → Value → Prop} {gv : Nat → Option Value} {x : Nat} {ds : List D} {m : Value} (h : cellRep R ds m) : VRep R gv x (cellV ds) m := by
 match ds, h with
 | [d], h => exact VRep.of_D h
 | [], ⟨ms, h1, h2⟩ => subst h1; exact .agg _ ms (by have := h2.1; simpa using this) (fun i c m hc hm => by simp at hc)
 | d :: d' :: ds, ⟨ms, h1, h2⟩ =>
  subst h1
  refine .agg _ ms (by have := h2.1; simpa using this) (fun i c m hc hm => ?_)
  rw [List.getElem?_map] at hc
  cases hd : (d :: d' :: ds)[i]? with
  | none => rw [hd] at hc; cases hc
  | some e =>
   rw [hd] at hc
   obtain rfl := Option.some.inj hc
   exact VRep.of_D (h2.2 i e m hd (by rw [Array.getElem?_toList]; exact hm))
def cellDs : V → Option (List D)
 | .val v => some [.val v]
 | .sl sz xs => some [.sl sz xs]
 | .agg [_] => none
 | .agg cs => toDs cs
 | _ => none
theorem cellDs_rep {R : Addr → Value → Prop} {gv : Nat → Option Value} {x : Nat} {v : V} {ds : List D} {m : Value} (hd : cellDs v = some ds) (h : VRep R gv x v m) : cellRep R ds m := by
 cases h with
 | val v hv => obtain rfl := Option.some.inj hd; exact .val _ hv
 | sl sz xs m h => obtain rfl := Option.some.inj hd; exact h
 | agg cs ms h1 h2 =>
  have key : ∀ ds', toDs cs = some ds' → rowRep R ds' ms.toList := fun ds' h3 => by
   have e := toDs_is h3
   refine ⟨by rw [Array.length_toList, h1, e, List.length_map], fun i d m hd' hm => ?_⟩
   exact DRep.of_V (h2 i d.toV m (by rw [e, List.getElem?_map, hd']; rfl) (by rw [← Array.getElem?_toList]; exact hm))
  match cs, hd with
  | [], hd => obtain rfl := Option.some.inj hd; exact ⟨ms, rfl, key [] rfl⟩
  | c :: c' :: cs, hd =>
   have hd : toDs (c :: c' :: cs) = some ds := hd
   have := key ds hd
   have hl : ds.length = (c :: c' :: cs).length := by have := congrArg List.length (toDs_is hd); simpa using this.symm
   match ds, hl with
   | d :: d' :: ds, _ => exact ⟨ms, rfl, this⟩
 | _ => cases hd
section
variable {P : Program} {n : Nat} {cx : Cx} {st : St} {o : Oper} {ops : Array Oper} {K : St → Prop} {E : List PanicEntry → St → Prop} {i : Nat} {rest : List Oper} {m : List Nat}
theorem VOps.comm {Ko : V → Heap → Nat → Prop} (hw : wantedV ops o st.s = some true)
  (h1 : ∀ g a w, Rep n cx g st a w → ∃ cases blocking shape w₁ mv w' g' v h' x', (execOp a.eval o).run P w = .ok (.comm cases blocking shape) w₁ ∧ (∀ fr cs es, stepG P true (G fr cs) w = .comm (G fr cs) cases blocking shape w₁ es → step P (solo (G fr cs) w) = .next (solo (G (fr.finish mv) cs) w')) ∧
   Ko v h' x' ∧ HRep cx g' h' x' w' ∧ VRep (Rd cx.z h' g' w') (gvOf h' g') x' v mv ∧ Next st.h g st.x w h' g' x' w')
  (h2 : ∀ v h' x', Ko v h' x' → VOps P n cx 0 m ops K E (i + 1) rest ⟨putS o.dst v st.s, h', x'⟩) : VOps P n cx 0 m ops K E i (o :: rest) st := fun hn hr g a w r => by
 obtain ⟨ho, hr'⟩ := VOps.tail hr
 have hwant := wantedV_is r hn hw
 obtain ⟨cases', blocking, shape, w₁, mv, w', g', v, h', x', hrun, hs, hk, hh, hv, hx⟩ := h1 g a w r
 have hf : List.range' i (o :: rest).length = i :: List.range' (i + 1) rest.length := by rw [List.length_cons, List.range'_succ]
 show Ops _ _ _ _ _ _
 rw [hf]
 refine Ops.comm ho hwant hrun (fun fr cs es h => hs fr cs es h) ?_
 refine h2 v h' x' hk hn hr' g' _ w' ?_
 cases hd : o.dst with
 | some d => exact r.put (dstOk_lt hn i d (by rw [ho]; exact hd)) hx hh hv
 | none => exact r.skip hx hh
theorem Rep.chan {g : Nat → Value} {a : Act} {w : World} (r : Rep n cx g st a w) {id cap : Nat} {buf : List (List D)} {closed : Bool} (hh : lk st.h id = some (.chan cap buf closed)) :
  ∃ c ms s q, gvOf st.h g id = some (.chan (some c)) ∧ w.heap[c]? = some (.chan cap ms closed s q false) ∧ ms.size = buf.length ∧ (∀ (i : Nat) (e : List D) (m : Value), buf[i]? = some e → ms[i]? = some m → cellRep (Rd cx.z st.h g w) e m) := by
 have hgv : gvOf st.h g id = some (g id) := by simp [gvOf, hh, O.live]
 obtain ⟨hlt, o', ho', hrep⟩ := r.h.obj _ _ hgv
 rw [hh] at ho'
 obtain rfl := Option.some.inj ho'
 generalize hx : g id = v at hrep hgv
 cases hrep with
 | chan _ _ _ c ms s q e1 e2 e3 => exact ⟨c, ms, s, q, hgv, e1, e2, e3⟩
theorem VOps.send {c x : Operand} {id cap : Nat} {buf : List (List D)} {v : V} {ds : List D} {s : List (Nat × V)} {h : Heap} {xx : Nat} (ho : o.op = .send c x) (hw : wantedV ops o s = some true) (hd : o.dst = none) (hc : ev s c = some (.ref id)) (hx : ev s x = some v) (hh : lk h id = some (.chan cap buf false)) (hds : cellDs v = some ds) (hroom : buf.length < cap)
  (h2 : VOps P n cx 0 m ops K E (i + 1) rest ⟨s, (id, .chan cap (buf ++ [ds]) false) :: h, xx⟩) : VOps P n cx 0 m ops K E i (o :: rest) ⟨s, h, xx⟩ := by
 refine VOps.comm (Ko := fun v' h' x' => h' = (id, .chan cap (buf ++ [ds]) false) :: h ∧ x' = xx) hw (fun g a w r => ?_) (by rintro v' h' x' ⟨rfl, rfl⟩; rw [hd]; exact h2)
 obtain ⟨b, ms, q1, q2, hgv, hb, hsz, hrep⟩ := r.chan hh
 have e1 : a.eval c = .chan (some b) := by
  have := ev_rep r hc
  generalize a.eval c = mm at this
  cases this with
  | ref _ _ _ _ h3 => exact h3 _ hgv
 have hxr := ev_rep r hx
 have hblt : b < w.heap.size := (Array.getElem?_eq_some_iff.1 hb).1
 have hww : ∀ k, k ≠ b → (w.setChan b cap (ms.push (a.eval x)) false (q1 + 1) q2 false).heap[k]? = w.heap[k]? := fun k hk => by simp [World.setChan, Array.getElem?_setIfInBounds_ne (Ne.symm hk)]
 have hsize : w.heap.size ≤ (w.setChan b cap (ms.push (a.eval x)) false (q1 + 1) q2 false).heap.size := by rw [size_setChan]; exact Nat.le_refl _
 have nx := change_next (o' := .chan cap (buf ++ [ds]) false) r.h hh rfl rfl hgv (.inl rfl) hsize hww
 refine ⟨#[scase b (a.eval x) (.tuple #[])], true, .send, w, undef, _, g, .junk, _, _, ?_, fun fr cs es hs => step_lone_send_room hs hb (by rw [hsz]; exact hroom), ⟨rfl, rfl⟩, ?_, .junk _, nx⟩
 ·unfold execOp; rw [ho]; simp [e1, scase]
 ·refine r.h.change hh rfl rfl hgv (.inl rfl) hsize hww rfl rfl rfl ?_
  refine .chan cap _ false b (ms.push (a.eval x)) (q1 + 1) q2 (heap_setChan _ _ _ _ _ _ _ _ hblt) (by simp [hsz]) (fun j e mm he hm => ?_)
  rw [List.getElem?_append] at he
  by_cases hj : j < buf.length
  ·rw [if_pos hj] at he
   rw [Array.getElem?_push, if_neg (by rw [hsz]; omega)] at hm
   exact (hrep j e mm he hm).mono nx.m.rd
  ·rw [if_neg hj] at he
   have hj0 : j = buf.length := by
    have := (List.getElem?_eq_some_iff.1 he).1
    simp at this; omega
   subst hj0
   rw [Array.getElem?_push, if_pos hsz.symm] at hm
   obtain rfl := Option.some.inj hm
   simp at he
   subst he
   exact (cellDs_rep hds hxr).mono nx.m.rd
theorem VOps.sendP {c x : Operand} {id cap : Nat} {buf buf' : List (List D)} {v : V} {ds : List D} {s : List (Nat × V)} {h : Heap} {xx : Nat} (ho : o.op = .send c x) (hw : wantedV ops o s = some true) (hd : o.dst = none) (hc : ev s c = some (.ref id)) (hx : ev s x = some v) (hh : lk h id = some (.chan cap buf false)) (hds : cellDs v = some ds) (hroom : buf.length < cap) (hb : buf ++ [ds] = buf')
  (h2 : VOps P n cx 0 m ops K E (i + 1) rest ⟨s, (id, .chan cap buf' false) :: h, xx⟩) : VOps P n cx 0 m ops K E i (o :: rest) ⟨s, h, xx⟩ := VOps.send ho hw hd hc hx hh hds hroom (by rw [hb]; exact h2)
theorem chan_of {g : Nat → Value} {a : Act} {w : World} {s : List (Nat × V)} {h : Heap} {xx : Nat} (r : Rep n cx g ⟨s, h, xx⟩ a w) {c : Operand} {id b : Nat} (hc : ev s c = some (.ref id)) (hgv : gvOf h g id = some (.chan (some b))) : a.eval c = .chan (some b) := by
 have := ev_rep r hc
 generalize a.eval c = mm at this
 cases this with
 | ref _ _ _ _ h3 => exact h3 _ hgv
theorem VOps.sel_some {c : Operand} {e : TypeId} {id cap d sz b : Nat} {td : TypeDesc} {z : Value} {d0 : List D} {buf : List (List D)} {s : List (Nat × V)} {h : Heap} {xx : Nat} (ho : o.op = .select #[{ chan := c, send := none, elem := e }] false) (hw : wantedV ops o s = some true) (hd : o.dst = some d) [ht : TI P e td sz b z] (hc : ev s c = some (.ref id)) (hh : lk h id = some (.chan cap (d0 :: buf) false))
  (h2 : VOps P n cx 0 m ops K E (i + 1) rest ⟨(d, .tup [.val (.int .i64 0), .val (.bool true), cellV d0]) :: s, (id, .chan cap buf false) :: h, xx⟩) : VOps P n cx 0 m ops K E i (o :: rest) ⟨s, h, xx⟩ := by
 refine VOps.comm (Ko := fun v' h' x' => v' = .tup [.val (.int .i64 0), .val (.bool true), cellV d0] ∧ h' = (id, .chan cap buf false) :: h ∧ x' = xx) hw (fun g a w r => ?_) (by rintro v' h' x' ⟨rfl, rfl, rfl⟩; rw [hd]; exact h2)
 obtain ⟨b', ms, q1, q2, hgv, hb, hsz, hrep⟩ := r.chan hh
 have e1 := chan_of r hc hgv
 have hblt : b' < w.heap.size := (Array.getElem?_eq_some_iff.1 hb).1
 have hww : ∀ k, k ≠ b' → (w.setChan b' cap (ms.extract 1 ms.size) false q1 (q2 + 1) false).heap[k]? = w.heap[k]? := fun k hk => by simp [World.setChan, Array.getElem?_setIfInBounds_ne (Ne.symm hk)]
 have hsize : w.heap.size ≤ (w.setChan b' cap (ms.extract 1 ms.size) false q1 (q2 + 1) false).heap.size := by rw [size_setChan]; exact Nat.le_refl _
 have nx := change_next (o' := .chan cap buf false) r.h hh rfl rfl hgv (.inl rfl) hsize hww
 have hpos : 0 < ms.size := by rw [hsz]; simp
 have h0 : cellRep (Rd cx.z h g w) d0 (ms.getD 0 undef) := hrep 0 d0 _ rfl (by rw [Array.getD_eq_getD_getElem?, Array.getElem?_eq_getElem hpos]; rfl)
 refine ⟨#[rcase b' z], false, .select, w, .tuple #[goInt 0, .bool true, ms.getD 0 undef], _, g, _, _, _, ?_, fun fr cs es hs => sel_recv hs hb hpos, ⟨rfl, rfl, rfl⟩, ?_, ?_, nx⟩
 ·unfold execOp; rw [ho]; simp [e1, rcase, ht.run_zero]
 ·refine r.h.change hh rfl rfl hgv (.inl rfl) hsize hww rfl rfl rfl ?_
  refine .chan cap _ false b' (ms.extract 1 ms.size) q1 (q2 + 1) (heap_setChan _ _ _ _ _ _ _ _ hblt) (by simp [hsz]) (fun j e' mm he hm => ?_)
  refine (hrep (j + 1) e' mm he ?_).mono nx.m.rd
  rw [Array.getElem?_extract] at hm
  split at hm
  ·rw [Nat.add_comm]; exact hm
  ·cases hm
 ·refine .tup _ _ rfl (fun j c' mm hc' hm => ?_)
  match j, hc', hm with
  | 0, hc', hm => obtain rfl := Option.some.inj hc'; obtain rfl := Option.some.inj hm; exact .val _ rfl
  | 1, hc', hm => obtain rfl := Option.some.inj hc'; obtain rfl := Option.some.inj hm; exact .val _ rfl
  | 2, hc', hm => obtain rfl := Option.some.inj hc'; obtain rfl := Option.some.inj hm; exact cellRep_V (h0.mono nx.m.rd)
  | j + 3, hc', hm => cases hc'
theorem VOps.sel_none {c : Operand} {e : TypeId} {id cap d sz b : Nat} {td : TypeDesc} {z : Value} {s : List (Nat × V)} {h : Heap} {xx : Nat} (ho : o.op = .select #[{ chan := c, send := none, elem := e }] false) (hw : wantedV ops o s = some true) (hd : o.dst = some d) [ht : TI P e td sz b z] (hc : ev s c = some (.ref id)) (hh : lk h id = some (.chan cap [] false))
  (h2 : VOps P n cx 0 m ops K E (i + 1) rest ⟨(d, .tup [.val (.int .i64 (-1)), .val (.bool false), .junk]) :: s, h, xx⟩) : VOps P n cx 0 m ops K E i (o :: rest) ⟨s, h, xx⟩ := by
 refine VOps.comm (Ko := fun v' h' x' => v' = .tup [.val (.int .i64 (-1)), .val (.bool false), .junk] ∧ h' = h ∧ x' = xx) hw (fun g a w r => ?_) (by rintro v' h' x' ⟨rfl, rfl, rfl⟩; rw [hd]; exact h2)
 obtain ⟨b', ms, q1, q2, hgv, hb, hsz, hrep⟩ := r.chan hh
 have e1 := chan_of r hc hgv
 obtain rfl : ms = #[] := Array.eq_empty_of_size_eq_zero (by rw [hsz]; rfl)
 refine ⟨#[rcase b' z], false, .select, w, .tuple #[goInt (-1), .bool false, z], _, g, _, _, _, ?_, fun fr cs es hs => step_lone_select_default hs hb, ⟨rfl, rfl, rfl⟩, r.h, ?_, Next.refl _ _ _ _⟩
 ·unfold execOp; rw [ho]; simp [e1, rcase, ht.run_zero]
 ·refine .tup _ _ rfl (fun j c' mm hc' hm => ?_)
  match j, hc', hm with
  | 0, hc', hm => obtain rfl := Option.some.inj hc'; obtain rfl := Option.some.inj hm; exact .val _ rfl
  | 1, hc', hm => obtain rfl := Option.some.inj hc'; obtain rfl := Option.some.inj hm; exact .val _ rfl
  | 2, hc', hm => obtain rfl := Option.some.inj hc'; exact .junk _
  | j + 3, hc', hm => cases hc'
theorem VOp.makeChan {t e : TypeId} {dir : ChanDir} {sz b s' b' : Nat} {z z' : Value} {d' : TypeDesc} {l : Operand} {k : IntKind} {q : Nat} (ho : o.op = .makeChan t l) [ht : TI P t (.chan dir e) sz b z] [he : TI P e d' s' b' z'] (hl : ev st.s l = some (.val (.int k (q : Int)))) (hb : b' * q ≤ most) (hq : q ≤ most) :
  VOp P n cx [] o (fun v' h' x' => v' = .ref st.x ∧ h' = (st.x, .chan q [] false) :: st.h ∧ x' = st.x + 1) E st := by
 refine VOp.of_new rfl (fun R gv u h1 h2 => ref_new h1 (by cases u <;> first | rfl | cases h2)) (fun g a w r => ?_)
 obtain ⟨i, hi, hisz, hiby, hiz⟩ := he.info
 have e1 := (ev_rep r hl).val_inv
 refine ⟨.chan q #[] false 0 0 false, .chan (some w.heap.size), ?_, rfl, .chan q [] false w.heap.size #[] 0 0 (heap_alloc_new w _) rfl (fun i e m h1 h2 => by simp at h1)⟩
 have wl : IntKind.i64.wrap (q : Int) = q := by rw [IntKind.wrap_i64]; simp only [most] at hq; omega
 have n1 : ¬ ((q : Int) < 0 ∨ 9223372036854775807 < (q : Int) ∨ 281474976710544 < (i.bytes : Int) * (q : Int)) := by
  have h : ((i.bytes * q : Nat) : Int) ≤ 140737488355328 := by rw [hiby]; simp only [most] at hb; omega
  rw [Int.natCast_mul] at h
  simp only [most] at hq
  omega
 unfold execOp; rw [ho]
 simp [e1, Instr.makeChan, asInt, asIntOf, run_underlying ht.und, typeInfo, hi, wl, newObj, Sem.run]
 exact fun h => absurd h n1
theorem VOps.makeChan {t e : TypeId} {dir : ChanDir} {sz b s' b' dd dr : Nat} {z z' : Value} {d' : TypeDesc} {l : Operand} {k : IntKind} {q : Nat} {s : List (Nat × V)} {h : Heap} {x : Nat} (ho : o.op = .makeChan t l) (hw : wantedV ops o s = some true) (hs : okM dr ops i m [] = true) (hd : o.dst = some dd) [ht : TI P t (.chan dir e) sz b z] [he : TI P e d' s' b' z'] (hl : ev s l = some (.val (.int k (q : Int)))) (hb : b' * q ≤ most) (hq : q ≤ most)
  (h2 : VOps P n cx (nxt dr) m ops K E (i + 1) rest ⟨(dd, .ref x) :: s, (x, .chan q [] false) :: h, x + 1⟩) : VOps P n cx dr m ops K E i (o :: rest) ⟨s, h, x⟩ := VOps.oo hw hs hd (VOp.makeChan ho hl hb hq) h2
end
end Go.Proofs.Ytfjfbapiheehaaa.V
namespace Go.Proofs.Ytfjfbapiheehaaa.V
open Go Go.Conc Go.RowKit Go.Proofs.Ytfjfbapiheehaaa.Comm
def Leaves (r : V) (h1 : Heap) (x1 : Nat) (o : VOut) (h' : Heap) (x' : Nat) : Prop := o = .ret r ∧ h' = h1 ∧ x' = x1
def retL (P : Program) (fn : Func) (Q : VOut → Heap → Nat → Prop) (cx : Cx) : VExit → St → Prop
 | .normal, st => Less cx (retPost P fn Q .normal) st
 | .ret, st => Less cx (retPost P fn Q .ret) st
 | .panic c, st => Q (.panic c) st.h st.x
 | .exit _, _ => False
theorem VCalls.enterL {P : Program} {f : FuncId} {fn : Func} {c : Code} {n : Nat} {args : List V} {h : Heap} {x : Nat} {Q : VOut → Heap → Nat → Prop} (hf : P.funcs[f]? = some fn) (hb : fn.body = some c) (hn : fn.ntmps = n) (ha : args.length ≤ n)
  (H : ∀ cx : Cx, cx.x = x → VCode P n cx c (retL P fn Q cx) ⟨argS 0 args, h, x⟩) : VCalls P f args h x Q := fun z g w ms h1 h2 h3 => by
 refine calls_of_wp hf hb ?_
 have rep : Rep n (cxOf z g h x w) g ⟨argS 0 args, h, x⟩ { tmps := ms ++ Array.replicate (fn.ntmps - ms.size) undef, defers := [] } w := by
  refine ⟨h1, by simp [hn, h2]; omega, rfl, fun d v hd => ?_⟩
  obtain ⟨_, hd'⟩ := argS_lk _ _ _ _ hd
  rw [Nat.sub_zero] at hd'
  have hlt : d < ms.size := by rw [h2]; exact (List.getElem?_eq_some_iff.1 hd').1
  have : (ms ++ Array.replicate (fn.ntmps - ms.size) undef).getD d undef = ms[d] := by
   rw [Array.getD_eq_getD_getElem?, Array.getElem?_append_left hlt, Array.getElem?_eq_getElem hlt]; rfl
  rw [this]
  exact h3 d v _ hd' (Array.getElem?_eq_getElem hlt)
 refine Go.wp_mono (H _ rfl g _ w rep) ?_
 intro e a' w' hq
 cases e with
 | normal =>
  obtain ⟨g', st', r', l, st2, k1, k2, k3, vs, hv, hQ⟩ := hq
  have r2 := k1.rep k2 k3 r'
  obtain ⟨m, e1, e2⟩ := results_rep r2 hv
  exact ⟨r2.defers, m, e1, _, st2.h, st2.x, .ret (oneV vs), r2.h, e2, hQ⟩
 | ret =>
  obtain ⟨g', st', r', l, st2, k1, k2, k3, vs, hv, hQ⟩ := hq
  have r2 := k1.rep k2 k3 r'
  obtain ⟨m, e1, e2⟩ := results_rep r2 hv
  exact ⟨r2.defers, m, e1, _, st2.h, st2.x, .ret (oneV vs), r2.h, e2, hQ⟩
 | panic c =>
  obtain ⟨hd, g', st', hh, hQ⟩ := hq
  exact ⟨hd, g', st'.h, st'.x, .panic c, hh, rfl, hQ⟩
 | exit id => obtain ⟨g', st', r', hQ⟩ := hq; exact hQ.elim
 | goto l => exact hq.elim
 | outgrown => exact hq.elim
section
variable {P : Program} {n : Nat} {cx : Cx} {ops : Array Oper} {K : St → Prop} {E : List PanicEntry → St → Prop} {i : Nat} {o : Oper} {rest : List Oper} {s : List (Nat × V)} {h : Heap} {x dr : Nat} {m : List Nat}
theorem VOps.callL {y : Operand} {xs : Array Operand} {ts : Array TypeId} {f : FuncId} {fn : Func} {vs caps cargs : List V} {r r' : V} {ch h1 hh : Heap} {x1 xx : Nat} (l : List Nat) (ho : o.op = .call { callee := .value y, args := xs, argTypes := ts }) (hf : P.funcs[f]? = some fn) (hw : wantedV ops o s = some true) (hs : okM dr ops i m l = true)
  (hb : fn.body.isSome = true) (hnm : (fn.name == "runtime.NumGoroutine") = false) (hx : ev s y = some (.fn f caps)) (hv : evs s xs.toList = some vs) (hch : SubH (nm l) l.length ch h) (hnd : l.Nodup) (hlt : (l.all fun i => Nat.blt i x) = true) (ha : vs ++ caps = V.renL (nm l) cargs) (hl : V.ltL l.length cargs = true)
  (hc : VCalls P f cargs ch l.length (Leaves r h1 x1)) (hr : r.ren (rn l x) = r') (hout : tidy (outH l x h1 h) = some hh) (hxx : x + (x1 - l.length) = xx)
  (h2 : VOps P n cx (nxt dr) m ops K E (i + 1) rest ⟨putS o.dst r' s, hh, xx⟩) : VOps P n cx dr m ops K E i (o :: rest) ⟨s, h, x⟩ := by
 rw [tidy_is] at hout
 obtain rfl := Option.some.inj hout
 refine VOps.op (m' := l) hw hs (VOp.call ho hf hb hnm hx hv ⟨hch, hnd, fun i hi => ?_⟩ ha hl hc (fun c h' x' hq => by cases hq.1)) ?_
 ·have := List.all_eq_true.1 hlt i hi
  simpa [Nat.blt_eq] using this
 ·rintro v h' x' ⟨out, ch', cx', ⟨e, rfl, rfl⟩, rfl, rfl, rfl⟩
  obtain rfl : out = r := by cases e; rfl
  rw [hr, hxx]; exact h2
end
section
variable {P : Program} {n : Nat} {cx : Cx} {st : St} {o : Oper}
theorem VPure.fnE {f : FuncId} {cs : Array Operand} {vs : List V} (ho : o.op = .makeFunc (.func f) #[] cs) (hv : evs st.s cs.toList = some vs) : VPure P n cx o st (.fn f vs) := by
 obtain ⟨e1, e2⟩ := evs_get hv
 refine VPure.makeFunc ho (by rw [← e1]; simp) (fun i c v hc hv' => e2 i c v (by rw [Array.getElem?_toList]; exact hc) hv')
end
end Go.Proofs.Ytfjfbapiheehaaa.V
end
section
set_option linter.unusedVariables false
namespace Go.Proofs.Ytfjfbapiheehaaa.V
open Go
instance ti2 : TI Try.prog 2 (.int .i64) 1 8 (.int .i64 0) := .mk' (by kernel_rfl) (by kernel_rfl)
instance ti3 : TI Try.prog 3 (.int .i64) 1 8 (.int .i64 0) := .mk' (by kernel_rfl) (by kernel_rfl)
instance ti4 : TI Try.prog 4 (.bool) 1 1 (.bool false) := .mk' (by kernel_rfl) (by kernel_rfl)
instance ti5 : TI Try.prog 5 (.int .u8) 1 1 (.int .u8 0) := .mk' (by kernel_rfl) (by kernel_rfl)
instance ti6 : TI Try.prog 6 (.int .u8) 1 1 (.int .u8 0) := .mk' (by kernel_rfl) (by kernel_rfl)
instance ti7 : TI Try.prog 7 (.struct #[{ name := "x", type := 2, offset := 0, embedded := false, tag := "", pkgPath := "runtime", byteOffset := 0 }, { name := "y", type := 3, offset := 1, embedded := false, tag := "", pkgPath := "runtime", byteOffset := 8 }, { name := "signed", type := 4, offset := 2, embedded := false, tag := "", pkgPath := "runtime", byteOffset := 16 }, { name := "code", type := 6, offset := 3, embedded := false, tag := "", pkgPath := "runtime", byteOffset := 17 }]) 4 24 (.agg #[(.int .i64 0), (.int .i64 0), (.bool false), (.int .u8 0)]) := .mk' (by kernel_rfl) (by kernel_rfl)
instance ti8 : TI Try.prog 8 (.struct #[{ name := "x", type := 2, offset := 0, embedded := false, tag := "", pkgPath := "runtime", byteOffset := 0 }, { name := "y", type := 3, offset := 1, embedded := false, tag := "", pkgPath := "runtime", byteOffset := 8 }, { name := "signed", type := 4, offset := 2, embedded := false, tag := "", pkgPath := "runtime", byteOffset := 16 }, { name := "code", type := 6, offset := 3, embedded := false, tag := "", pkgPath := "runtime", byteOffset := 17 }]) 4 24 (.agg #[(.int .i64 0), (.int .i64 0), (.bool false), (.int .u8 0)]) := .mk' (by kernel_rfl) (by kernel_rfl)
instance ti9 : TI Try.prog 9 (.string) 1 16 (.string ⟨#[]⟩) := .mk' (by kernel_rfl) (by kernel_rfl)
instance ti10 : TI Try.prog 10 (.string) 1 16 (.string ⟨#[]⟩) := .mk' (by kernel_rfl) (by kernel_rfl)
instance ti11 : TI Try.prog 11 (.string) 1 16 (.string ⟨#[]⟩) := .mk' (by kernel_rfl) (by kernel_rfl)
instance ti12 : TI Try.prog 12 (.int .u64) 1 8 (.int .u64 0) := .mk' (by kernel_rfl) (by kernel_rfl)
instance ti13 : TI Try.prog 13 (.struct #[{ name := "msg", type := 9, offset := 0, embedded := false, tag := "", pkgPath := "runtime", byteOffset := 0 }, { name := "addr", type := 12, offset := 1, embedded := false, tag := "", pkgPath := "runtime", byteOffset := 16 }]) 2 24 (.agg #[(.string ⟨#[]⟩), (.int .u64 0)]) := .mk' (by kernel_rfl) (by kernel_rfl)
instance ti14 : TI Try.prog 14 (.struct #[{ name := "msg", type := 9, offset := 0, embedded := false, tag := "", pkgPath := "runtime", byteOffset := 0 }, { name := "addr", type := 12, offset := 1, embedded := false, tag := "", pkgPath := "runtime", byteOffset := 16 }]) 2 24 (.agg #[(.string ⟨#[]⟩), (.int .u64 0)]) := .mk' (by kernel_rfl) (by kernel_rfl)
instance ti15 : TI Try.prog 15 (.pointer 128) 1 8 (.pointer none) := .mk' (by kernel_rfl) (by kernel_rfl)
instance ti16 : TI Try.prog 16 (.pointer 131) 1 8 (.pointer none) := .mk' (by kernel_rfl) (by kernel_rfl)
instance ti17 : TI Try.prog 17 (.pointer 141) 1 8 (.pointer none) := .mk' (by kernel_rfl) (by kernel_rfl)
instance ti18 : TI Try.prog 18 (.struct #[{ name := "typ", type := 17, offset := 0, embedded := false, tag := "", pkgPath := "internal/runtime/maps", byteOffset := 0 }]) 1 8 (.agg #[(.pointer none)]) := .mk' (by kernel_rfl) (by kernel_rfl)
instance ti19 : TI Try.prog 19 (.struct #[{ name := "typ", type := 17, offset := 0, embedded := false, tag := "", pkgPath := "internal/runtime/maps", byteOffset := 0 }]) 1 8 (.agg #[(.pointer none)]) := .mk' (by kernel_rfl) (by kernel_rfl)
instance ti20 : TI Try.prog 20 (.interface #[]) 1 16 .nilIface := .mk' (by kernel_rfl) (by kernel_rfl)
instance ti21 : TI Try.prog 21 (.int .i32) 1 4 (.int .i32 0) := .mk' (by kernel_rfl) (by kernel_rfl)
instance ti22 : TI Try.prog 22 (.slice 9) 1 24 (.slice none 0 0) := .mk' (by kernel_rfl) (by kernel_rfl)
instance ti23 : TI Try.prog 23 (.slice 46) 1 24 (.slice none 0 0) := .mk' (by kernel_rfl) (by kernel_rfl)
instance ti24 : TI Try.prog 24 (.struct #[{ name := "Terms", type := 22, offset := 0, embedded := false, tag := "", pkgPath := "", byteOffset := 0 }, { name := "Names", type := 22, offset := 1, embedded := false, tag := "", pkgPath := "", byteOffset := 24 }, { name := "Rules", type := 23, offset := 2, embedded := false, tag := "", pkgPath := "", byteOffset := 48 }]) 3 72 (.agg #[(.slice none 0 0), (.slice none 0 0), (.slice none 0 0)]) := .mk' (by kernel_rfl) (by kernel_rfl)
instance ti25 : TI Try.prog 25 (.struct #[{ name := "Terms", type := 22, offset := 0, embedded := false, tag := "", pkgPath := "", byteOffset := 0 }, { name := "Names", type := 22, offset := 1, embedded := false, tag := "", pkgPath := "", byteOffset := 24 }, { name := "Rules", type := 23, offset := 2, embedded := false, tag := "", pkgPath := "", byteOffset := 48 }]) 3 72 (.agg #[(.slice none 0 0), (.slice none 0 0), (.slice none 0 0)]) := .mk' (by kernel_rfl) (by kernel_rfl)
instance ti26 : TI Try.prog 26 (.slice 44) 1 24 (.slice none 0 0) := .mk' (by kernel_rfl) (by kernel_rfl)
instance ti30 : TI Try.prog 30 (.slice 33) 1 24 (.slice none 0 0) := .mk' (by kernel_rfl) (by kernel_rfl)
instance ti33 : TI Try.prog 33 (.slice 4) 1 24 (.slice none 0 0) := .mk' (by kernel_rfl) (by kernel_rfl)
instance ti37 : TI Try.prog 37 (.slice 3) 1 24 (.slice none 0 0) := .mk' (by kernel_rfl) (by kernel_rfl)
instance ti43 : TI Try.prog 43 (.struct #[{ name := "Rule", type := 3, offset := 0, embedded := false, tag := "", pkgPath := "", byteOffset := 0 }, { name := "Dot", type := 3, offset := 1, embedded := false, tag := "", pkgPath := "", byteOffset := 8 }]) 2 16 (.agg #[(.int .i64 0), (.int .i64 0)]) := .mk' (by kernel_rfl) (by kernel_rfl)
instance ti44 : TI Try.prog 44 (.struct #[{ name := "Rule", type := 3, offset := 0, embedded := false, tag := "", pkgPath := "", byteOffset := 0 }, { name := "Dot", type := 3, offset := 1, embedded := false, tag := "", pkgPath := "", byteOffset := 8 }]) 2 16 (.agg #[(.int .i64 0), (.int .i64 0)]) := .mk' (by kernel_rfl) (by kernel_rfl)
instance ti45 : TI Try.prog 45 (.struct #[{ name := "Left", type := 3, offset := 0, embedded := false, tag := "", pkgPath := "", byteOffset := 0 }, { name := "Right", type := 37, offset := 1, embedded := false, tag := "", pkgPath := "", byteOffset := 8 }]) 2 32 (.agg #[(.int .i64 0), (.slice none 0 0)]) := .mk' (by kernel_rfl) (by kernel_rfl)
instance ti46 : TI Try.prog 46 (.struct #[{ name := "Left", type := 3, offset := 0, embedded := false, tag := "", pkgPath := "", byteOffset := 0 }, { name := "Right", type := 37, offset := 1, embedded := false, tag := "", pkgPath := "", byteOffset := 8 }]) 2 32 (.agg #[(.int .i64 0), (.slice none 0 0)]) := .mk' (by kernel_rfl) (by kernel_rfl)
instance ti51 : TI Try.prog 51 (.int .i64) 1 8 (.int .i64 0) := .mk' (by kernel_rfl) (by kernel_rfl)
instance ti52 : TI Try.prog 52 (.struct #[{ name := "E", type := 51, offset := 0, embedded := false, tag := "", pkgPath := "", byteOffset := 0 }, { name := "At", type := 3, offset := 1, embedded := false, tag := "", pkgPath := "", byteOffset := 8 }]) 2 16 (.agg #[(.int .i64 0), (.int .i64 0)]) := .mk' (by kernel_rfl) (by kernel_rfl)
instance ti53 : TI Try.prog 53 (.struct #[{ name := "E", type := 51, offset := 0, embedded := false, tag := "", pkgPath := "", byteOffset := 0 }, { name := "At", type := 3, offset := 1, embedded := false, tag := "", pkgPath := "", byteOffset := 8 }]) 2 16 (.agg #[(.int .i64 0), (.int .i64 0)]) := .mk' (by kernel_rfl) (by kernel_rfl)
instance ti66 : TI Try.prog 66 (.struct #[{ name := "at", type := 3, offset := 0, embedded := false, tag := "", pkgPath := "topiarist/embed", byteOffset := 0 }, { name := "left", type := 4, offset := 1, embedded := false, tag := "", pkgPath := "topiarist/embed", byteOffset := 8 }, { name := "right", type := 4, offset := 2, embedded := false, tag := "", pkgPath := "topiarist/embed", byteOffset := 9 }]) 3 16 (.agg #[(.int .i64 0), (.bool false), (.bool false)]) := .mk' (by kernel_rfl) (by kernel_rfl)
instance ti67 : TI Try.prog 67 (.struct #[{ name := "at", type := 3, offset := 0, embedded := false, tag := "", pkgPath := "topiarist/embed", byteOffset := 0 }, { name := "left", type := 4, offset := 1, embedded := false, tag := "", pkgPath := "topiarist/embed", byteOffset := 8 }, { name := "right", type := 4, offset := 2, embedded := false, tag := "", pkgPath := "topiarist/embed", byteOffset := 9 }]) 3 16 (.agg #[(.int .i64 0), (.bool false), (.bool false)]) := .mk' (by kernel_rfl) (by kernel_rfl)
instance ti69 : TI Try.prog 69 (.slice 72) 1 24 (.slice none 0 0) := .mk' (by kernel_rfl) (by kernel_rfl)
instance ti71 : TI Try.prog 71 (.array 4 4) 4 4 (.agg #[(.bool false), (.bool false), (.bool false), (.bool false)]) := .mk' (by kernel_rfl) (by kernel_rfl)
instance ti72 : TI Try.prog 72 (.slice 71) 1 24 (.slice none 0 0) := .mk' (by kernel_rfl) (by kernel_rfl)
instance ti74 : TI Try.prog 74 (.slice 82) 1 24 (.slice none 0 0) := .mk' (by kernel_rfl) (by kernel_rfl)
instance ti78 : TI Try.prog 78 (.slice 84) 1 24 (.slice none 0 0) := .mk' (by kernel_rfl) (by kernel_rfl)
instance ti81 : TI Try.prog 81 (.struct #[{ name := "Kind", type := 3, offset := 0, embedded := false, tag := "", pkgPath := "", byteOffset := 0 }, { name := "Text", type := 9, offset := 1, embedded := false, tag := "", pkgPath := "", byteOffset := 8 }, { name := "At", type := 3, offset := 2, embedded := false, tag := "", pkgPath := "", byteOffset := 24 }]) 3 32 (.agg #[(.int .i64 0), (.string ⟨#[]⟩), (.int .i64 0)]) := .mk' (by kernel_rfl) (by kernel_rfl)
instance ti82 : TI Try.prog 82 (.struct #[{ name := "Kind", type := 3, offset := 0, embedded := false, tag := "", pkgPath := "", byteOffset := 0 }, { name := "Text", type := 9, offset := 1, embedded := false, tag := "", pkgPath := "", byteOffset := 8 }, { name := "At", type := 3, offset := 2, embedded := false, tag := "", pkgPath := "", byteOffset := 24 }]) 3 32 (.agg #[(.int .i64 0), (.string ⟨#[]⟩), (.int .i64 0)]) := .mk' (by kernel_rfl) (by kernel_rfl)
instance ti83 : TI Try.prog 83 (.struct #[{ name := "Left", type := 82, offset := 0, embedded := false, tag := "", pkgPath := "", byteOffset := 0 }, { name := "Right", type := 74, offset := 3, embedded := false, tag := "", pkgPath := "", byteOffset := 32 }]) 4 56 (.agg #[(.int .i64 0), (.string ⟨#[]⟩), (.int .i64 0), (.slice none 0 0)]) := .mk' (by kernel_rfl) (by kernel_rfl)
instance ti84 : TI Try.prog 84 (.struct #[{ name := "Left", type := 82, offset := 0, embedded := false, tag := "", pkgPath := "", byteOffset := 0 }, { name := "Right", type := 74, offset := 3, embedded := false, tag := "", pkgPath := "", byteOffset := 32 }]) 4 56 (.agg #[(.int .i64 0), (.string ⟨#[]⟩), (.int .i64 0), (.slice none 0 0)]) := .mk' (by kernel_rfl) (by kernel_rfl)
instance ti89 : TI Try.prog 89 (.chan .both 3) 1 8 (.chan none) := .mk' (by kernel_rfl) (by kernel_rfl)
instance ti92 : TI Try.prog 92 (.slice 116) 1 24 (.slice none 0 0) := .mk' (by kernel_rfl) (by kernel_rfl)
instance ti94 : TI Try.prog 94 (.map 67 3) 1 8 (.map none) := .mk' (by kernel_rfl) (by kernel_rfl)
instance ti96 : TI Try.prog 96 (.slice 97) 1 24 (.slice none 0 0) := .mk' (by kernel_rfl) (by kernel_rfl)
instance ti97 : TI Try.prog 97 (.array 3 3) 3 24 (.agg #[(.int .i64 0), (.int .i64 0), (.int .i64 0)]) := .mk' (by kernel_rfl) (by kernel_rfl)
instance ti98 : TI Try.prog 98 (.struct #[{ name := "at", type := 3, offset := 0, embedded := false, tag := "", pkgPath := "topiarist/lex", byteOffset := 0 }]) 1 8 (.agg #[(.int .i64 0)]) := .mk' (by kernel_rfl) (by kernel_rfl)
instance ti99 : TI Try.prog 99 (.struct #[{ name := "at", type := 3, offset := 0, embedded := false, tag := "", pkgPath := "topiarist/lex", byteOffset := 0 }]) 1 8 (.agg #[(.int .i64 0)]) := .mk' (by kernel_rfl) (by kernel_rfl)
instance ti104 : TI Try.prog 104 (.pointer 106) 1 8 (.pointer none) := .mk' (by kernel_rfl) (by kernel_rfl)
instance ti105 : TI Try.prog 105 (.struct #[{ name := "l", type := 74, offset := 0, embedded := false, tag := "", pkgPath := "topiarist/read", byteOffset := 0 }, { name := "end", type := 3, offset := 1, embedded := false, tag := "", pkgPath := "topiarist/read", byteOffset := 24 }, { name := "out", type := 78, offset := 2, embedded := false, tag := "", pkgPath := "topiarist/read", byteOffset := 32 }]) 3 56 (.agg #[(.slice none 0 0), (.int .i64 0), (.slice none 0 0)]) := .mk' (by kernel_rfl) (by kernel_rfl)
instance ti106 : TI Try.prog 106 (.struct #[{ name := "l", type := 74, offset := 0, embedded := false, tag := "", pkgPath := "topiarist/read", byteOffset := 0 }, { name := "end", type := 3, offset := 1, embedded := false, tag := "", pkgPath := "topiarist/read", byteOffset := 24 }, { name := "out", type := 78, offset := 2, embedded := false, tag := "", pkgPath := "topiarist/read", byteOffset := 32 }]) 3 56 (.agg #[(.slice none 0 0), (.int .i64 0), (.slice none 0 0)]) := .mk' (by kernel_rfl) (by kernel_rfl)
instance ti115 : TI Try.prog 115 (.struct #[{ name := "from", type := 3, offset := 0, embedded := false, tag := "", pkgPath := "topiarist/embed", byteOffset := 0 }, { name := "to", type := 67, offset := 1, embedded := false, tag := "", pkgPath := "topiarist/embed", byteOffset := 8 }]) 4 24 (.agg #[(.int .i64 0), (.int .i64 0), (.bool false), (.bool false)]) := .mk' (by kernel_rfl) (by kernel_rfl)
instance ti116 : TI Try.prog 116 (.struct #[{ name := "from", type := 3, offset := 0, embedded := false, tag := "", pkgPath := "topiarist/embed", byteOffset := 0 }, { name := "to", type := 67, offset := 1, embedded := false, tag := "", pkgPath := "topiarist/embed", byteOffset := 8 }]) 4 24 (.agg #[(.int .i64 0), (.int .i64 0), (.bool false), (.bool false)]) := .mk' (by kernel_rfl) (by kernel_rfl)
instance ti117 : TI Try.prog 117 (.chan .both 67) 1 8 (.chan none) := .mk' (by kernel_rfl) (by kernel_rfl)
instance ti127 : TI Try.prog 127 (.struct #[{ name := "_interface", type := 17, offset := 0, embedded := false, tag := "", pkgPath := "runtime", byteOffset := 0 }, { name := "concrete", type := 17, offset := 1, embedded := false, tag := "", pkgPath := "runtime", byteOffset := 8 }, { name := "asserted", type := 17, offset := 2, embedded := false, tag := "", pkgPath := "runtime", byteOffset := 16 }, { name := "missingMethod", type := 9, offset := 3, embedded := false, tag := "", pkgPath := "runtime", byteOffset := 24 }]) 4 40 (.agg #[(.pointer none), (.pointer none), (.pointer none), (.string ⟨#[]⟩)]) := .mk' (by kernel_rfl) (by kernel_rfl)
instance ti128 : TI Try.prog 128 (.struct #[{ name := "_interface", type := 17, offset := 0, embedded := false, tag := "", pkgPath := "runtime", byteOffset := 0 }, { name := "concrete", type := 17, offset := 1, embedded := false, tag := "", pkgPath := "runtime", byteOffset := 8 }, { name := "asserted", type := 17, offset := 2, embedded := false, tag := "", pkgPath := "runtime", byteOffset := 16 }, { name := "missingMethod", type := 9, offset := 3, embedded := false, tag := "", pkgPath := "runtime", byteOffset := 24 }]) 4 40 (.agg #[(.pointer none), (.pointer none), (.pointer none), (.string ⟨#[]⟩)]) := .mk' (by kernel_rfl) (by kernel_rfl)
instance ti133 : TI Try.prog 133 (.int .u32) 1 4 (.int .u32 0) := .mk' (by kernel_rfl) (by kernel_rfl)
instance ti134 : TI Try.prog 134 (.int .u8) 1 1 (.int .u8 0) := .mk' (by kernel_rfl) (by kernel_rfl)
instance ti135 : TI Try.prog 135 (.int .u8) 1 1 (.int .u8 0) := .mk' (by kernel_rfl) (by kernel_rfl)
instance ti137 : TI Try.prog 137 (.pointer 5) 1 8 (.pointer none) := .mk' (by kernel_rfl) (by kernel_rfl)
instance ti138 : TI Try.prog 138 (.int .i32) 1 4 (.int .i32 0) := .mk' (by kernel_rfl) (by kernel_rfl)
instance ti139 : TI Try.prog 139 (.int .i32) 1 4 (.int .i32 0) := .mk' (by kernel_rfl) (by kernel_rfl)
instance ti140 : TI Try.prog 140 (.struct #[{ name := "Size_", type := 12, offset := 0, embedded := false, tag := "", pkgPath := "", byteOffset := 0 }, { name := "PtrBytes", type := 12, offset := 1, embedded := false, tag := "", pkgPath := "", byteOffset := 8 }, { name := "Hash", type := 133, offset := 2, embedded := false, tag := "", pkgPath := "", byteOffset := 16 }, { name := "TFlag", type := 134, offset := 3, embedded := false, tag := "", pkgPath := "", byteOffset := 20 }, { name := "Align_", type := 5, offset := 4, embedded := false, tag := "", pkgPath := "", byteOffset := 21 }, { name := "FieldAlign_", type := 5, offset := 5, embedded := false, tag := "", pkgPath := "", byteOffset := 22 }, { name := "Kind_", type := 135, offset := 6, embedded := false, tag := "", pkgPath := "", byteOffset := 23 }, { name := "Equal", type := 136, offset := 7, embedded := false, tag := "", pkgPath := "", byteOffset := 24 }, { name := "GCData", type := 137, offset := 8, embedded := false, tag := "", pkgPath := "", byteOffset := 32 }, { name := "Str", type := 138, offset := 9, embedded := false, tag := "", pkgPath := "", byteOffset := 40 }, { name := "PtrToThis", type := 139, offset := 10, embedded := false, tag := "", pkgPath := "", byteOffset := 44 }]) 11 48 (.agg #[(.int .u64 0), (.int .u64 0), (.int .u32 0), (.int .u8 0), (.int .u8 0), (.int .u8 0), (.int .u8 0), .nilFunc, (.pointer none), (.int .i32 0), (.int .i32 0)]) := .mk' (by kernel_rfl) (by kernel_rfl)
instance ti141 : TI Try.prog 141 (.struct #[{ name := "Size_", type := 12, offset := 0, embedded := false, tag := "", pkgPath := "", byteOffset := 0 }, { name := "PtrBytes", type := 12, offset := 1, embedded := false, tag := "", pkgPath := "", byteOffset := 8 }, { name := "Hash", type := 133, offset := 2, embedded := false, tag := "", pkgPath := "", byteOffset := 16 }, { name := "TFlag", type := 134, offset := 3, embedded := false, tag := "", pkgPath := "", byteOffset := 20 }, { name := "Align_", type := 5, offset := 4, embedded := false, tag := "", pkgPath := "", byteOffset := 21 }, { name := "FieldAlign_", type := 5, offset := 5, embedded := false, tag := "", pkgPath := "", byteOffset := 22 }, { name := "Kind_", type := 135, offset := 6, embedded := false, tag := "", pkgPath := "", byteOffset := 23 }, { name := "Equal", type := 136, offset := 7, embedded := false, tag := "", pkgPath := "", byteOffset := 24 }, { name := "GCData", type := 137, offset := 8, embedded := false, tag := "", pkgPath := "", byteOffset := 32 }, { name := "Str", type := 138, offset := 9, embedded := false, tag := "", pkgPath := "", byteOffset := 40 }, { name := "PtrToThis", type := 139, offset := 10, embedded := false, tag := "", pkgPath := "", byteOffset := 44 }]) 11 48 (.agg #[(.int .u64 0), (.int .u64 0), (.int .u32 0), (.int .u8 0), (.int .u8 0), (.int .u8 0), (.int .u8 0), .nilFunc, (.pointer none), (.int .i32 0), (.int .i32 0)]) := .mk' (by kernel_rfl) (by kernel_rfl)
instance fa7_0 : FA Try.prog 7 0 0 := .mk' ti7 rfl ti2 (by decide) rfl
instance fa7_1 : FA Try.prog 7 1 1 := .mk' ti7 rfl ti3 (by decide) rfl
instance fa7_2 : FA Try.prog 7 2 2 := .mk' ti7 rfl ti4 (by decide) rfl
instance fa7_3 : FA Try.prog 7 3 3 := .mk' ti7 rfl ti6 (by decide) rfl
instance fa8_0 : FA Try.prog 8 0 0 := .mk' ti8 rfl ti2 (by decide) rfl
instance fa8_1 : FA Try.prog 8 1 1 := .mk' ti8 rfl ti3 (by decide) rfl
instance fa8_2 : FA Try.prog 8 2 2 := .mk' ti8 rfl ti4 (by decide) rfl
instance fa8_3 : FA Try.prog 8 3 3 := .mk' ti8 rfl ti6 (by decide) rfl
instance fa13_0 : FA Try.prog 13 0 0 := .mk' ti13 rfl ti9 (by decide) rfl
instance fa13_1 : FA Try.prog 13 1 1 := .mk' ti13 rfl ti12 (by decide) rfl
instance fa14_0 : FA Try.prog 14 0 0 := .mk' ti14 rfl ti9 (by decide) rfl
instance fa14_1 : FA Try.prog 14 1 1 := .mk' ti14 rfl ti12 (by decide) rfl
instance fa18_0 : FA Try.prog 18 0 0 := .mk' ti18 rfl ti17 (by decide) rfl
instance fa19_0 : FA Try.prog 19 0 0 := .mk' ti19 rfl ti17 (by decide) rfl
instance fa24_0 : FA Try.prog 24 0 0 := .mk' ti24 rfl ti22 (by decide) rfl
instance fa24_1 : FA Try.prog 24 1 1 := .mk' ti24 rfl ti22 (by decide) rfl
instance fa24_2 : FA Try.prog 24 2 2 := .mk' ti24 rfl ti23 (by decide) rfl
instance fa25_0 : FA Try.prog 25 0 0 := .mk' ti25 rfl ti22 (by decide) rfl
instance fa25_1 : FA Try.prog 25 1 1 := .mk' ti25 rfl ti22 (by decide) rfl
instance fa25_2 : FA Try.prog 25 2 2 := .mk' ti25 rfl ti23 (by decide) rfl
instance fa43_0 : FA Try.prog 43 0 0 := .mk' ti43 rfl ti3 (by decide) rfl
instance fa43_1 : FA Try.prog 43 1 1 := .mk' ti43 rfl ti3 (by decide) rfl
instance fa44_0 : FA Try.prog 44 0 0 := .mk' ti44 rfl ti3 (by decide) rfl
instance fa44_1 : FA Try.prog 44 1 1 := .mk' ti44 rfl ti3 (by decide) rfl
instance fa45_0 : FA Try.prog 45 0 0 := .mk' ti45 rfl ti3 (by decide) rfl
instance fa45_1 : FA Try.prog 45 1 1 := .mk' ti45 rfl ti37 (by decide) rfl
instance fa46_0 : FA Try.prog 46 0 0 := .mk' ti46 rfl ti3 (by decide) rfl
instance fa46_1 : FA Try.prog 46 1 1 := .mk' ti46 rfl ti37 (by decide) rfl
instance fa52_0 : FA Try.prog 52 0 0 := .mk' ti52 rfl ti51 (by decide) rfl
instance fa52_1 : FA Try.prog 52 1 1 := .mk' ti52 rfl ti3 (by decide) rfl
instance fa53_0 : FA Try.prog 53 0 0 := .mk' ti53 rfl ti51 (by decide) rfl
instance fa53_1 : FA Try.prog 53 1 1 := .mk' ti53 rfl ti3 (by decide) rfl
instance fa66_0 : FA Try.prog 66 0 0 := .mk' ti66 rfl ti3 (by decide) rfl
instance fa66_1 : FA Try.prog 66 1 1 := .mk' ti66 rfl ti4 (by decide) rfl
instance fa66_2 : FA Try.prog 66 2 2 := .mk' ti66 rfl ti4 (by decide) rfl
instance fa67_0 : FA Try.prog 67 0 0 := .mk' ti67 rfl ti3 (by decide) rfl
instance fa67_1 : FA Try.prog 67 1 1 := .mk' ti67 rfl ti4 (by decide) rfl
instance fa67_2 : FA Try.prog 67 2 2 := .mk' ti67 rfl ti4 (by decide) rfl
instance fa81_0 : FA Try.prog 81 0 0 := .mk' ti81 rfl ti3 (by decide) rfl
instance fa81_1 : FA Try.prog 81 1 1 := .mk' ti81 rfl ti9 (by decide) rfl
instance fa81_2 : FA Try.prog 81 2 2 := .mk' ti81 rfl ti3 (by decide) rfl
instance fa82_0 : FA Try.prog 82 0 0 := .mk' ti82 rfl ti3 (by decide) rfl
instance fa82_1 : FA Try.prog 82 1 1 := .mk' ti82 rfl ti9 (by decide) rfl
instance fa82_2 : FA Try.prog 82 2 2 := .mk' ti82 rfl ti3 (by decide) rfl
instance fa83_0 : FA Try.prog 83 0 0 := .mk' ti83 rfl ti82 (by decide) rfl
instance fa83_1 : FA Try.prog 83 1 3 := .mk' ti83 rfl ti74 (by decide) rfl
instance fa84_0 : FA Try.prog 84 0 0 := .mk' ti84 rfl ti82 (by decide) rfl
instance fa84_1 : FA Try.prog 84 1 3 := .mk' ti84 rfl ti74 (by decide) rfl
instance fa98_0 : FA Try.prog 98 0 0 := .mk' ti98 rfl ti3 (by decide) rfl
instance fa99_0 : FA Try.prog 99 0 0 := .mk' ti99 rfl ti3 (by decide) rfl
instance fa105_0 : FA Try.prog 105 0 0 := .mk' ti105 rfl ti74 (by decide) rfl
instance fa105_1 : FA Try.prog 105 1 1 := .mk' ti105 rfl ti3 (by decide) rfl
instance fa105_2 : FA Try.prog 105 2 2 := .mk' ti105 rfl ti78 (by decide) rfl
instance fa106_0 : FA Try.prog 106 0 0 := .mk' ti106 rfl ti74 (by decide) rfl
instance fa106_1 : FA Try.prog 106 1 1 := .mk' ti106 rfl ti3 (by decide) rfl
instance fa106_2 : FA Try.prog 106 2 2 := .mk' ti106 rfl ti78 (by decide) rfl
instance fa115_0 : FA Try.prog 115 0 0 := .mk' ti115 rfl ti3 (by decide) rfl
instance fa115_1 : FA Try.prog 115 1 1 := .mk' ti115 rfl ti67 (by decide) rfl
instance fa116_0 : FA Try.prog 116 0 0 := .mk' ti116 rfl ti3 (by decide) rfl
instance fa116_1 : FA Try.prog 116 1 1 := .mk' ti116 rfl ti67 (by decide) rfl
instance fa127_0 : FA Try.prog 127 0 0 := .mk' ti127 rfl ti17 (by decide) rfl
instance fa127_1 : FA Try.prog 127 1 1 := .mk' ti127 rfl ti17 (by decide) rfl
instance fa127_2 : FA Try.prog 127 2 2 := .mk' ti127 rfl ti17 (by decide) rfl
instance fa127_3 : FA Try.prog 127 3 3 := .mk' ti127 rfl ti9 (by decide) rfl
instance fa128_0 : FA Try.prog 128 0 0 := .mk' ti128 rfl ti17 (by decide) rfl
instance fa128_1 : FA Try.prog 128 1 1 := .mk' ti128 rfl ti17 (by decide) rfl
instance fa128_2 : FA Try.prog 128 2 2 := .mk' ti128 rfl ti17 (by decide) rfl
instance fa128_3 : FA Try.prog 128 3 3 := .mk' ti128 rfl ti9 (by decide) rfl
instance fa140_0 : FA Try.prog 140 0 0 := .mk' ti140 rfl ti12 (by decide) rfl
instance fa140_1 : FA Try.prog 140 1 1 := .mk' ti140 rfl ti12 (by decide) rfl
instance fa140_2 : FA Try.prog 140 2 2 := .mk' ti140 rfl ti133 (by decide) rfl
instance fa140_3 : FA Try.prog 140 3 3 := .mk' ti140 rfl ti134 (by decide) rfl
instance fa140_4 : FA Try.prog 140 4 4 := .mk' ti140 rfl ti5 (by decide) rfl
instance fa140_5 : FA Try.prog 140 5 5 := .mk' ti140 rfl ti5 (by decide) rfl
instance fa140_6 : FA Try.prog 140 6 6 := .mk' ti140 rfl ti135 (by decide) rfl
instance fa140_8 : FA Try.prog 140 8 8 := .mk' ti140 rfl ti137 (by decide) rfl
instance fa140_9 : FA Try.prog 140 9 9 := .mk' ti140 rfl ti138 (by decide) rfl
instance fa140_10 : FA Try.prog 140 10 10 := .mk' ti140 rfl ti139 (by decide) rfl
instance fa141_0 : FA Try.prog 141 0 0 := .mk' ti141 rfl ti12 (by decide) rfl
instance fa141_1 : FA Try.prog 141 1 1 := .mk' ti141 rfl ti12 (by decide) rfl
instance fa141_2 : FA Try.prog 141 2 2 := .mk' ti141 rfl ti133 (by decide) rfl
instance fa141_3 : FA Try.prog 141 3 3 := .mk' ti141 rfl ti134 (by decide) rfl
instance fa141_4 : FA Try.prog 141 4 4 := .mk' ti141 rfl ti5 (by decide) rfl
instance fa141_5 : FA Try.prog 141 5 5 := .mk' ti141 rfl ti5 (by decide) rfl
instance fa141_6 : FA Try.prog 141 6 6 := .mk' ti141 rfl ti135 (by decide) rfl
instance fa141_8 : FA Try.prog 141 8 8 := .mk' ti141 rfl ti137 (by decide) rfl
instance fa141_9 : FA Try.prog 141 9 9 := .mk' ti141 rfl ti138 (by decide) rfl
instance fa141_10 : FA Try.prog 141 10 10 := .mk' ti141 rfl ti139 (by decide) rfl
instance eq44 : EQ Try.prog 44 [.int .i64, .int .i64] := .mk' ti44 (by kernel_rfl) (by kernel_rfl) (by kernel_rfl)
instance eq53 : EQ Try.prog 53 [.int .i64, .int .i64] := .mk' ti53 (by kernel_rfl) (by kernel_rfl) (by kernel_rfl)
instance eq67 : EQ Try.prog 67 [.int .i64, .bool, .bool] := .mk' ti67 (by kernel_rfl) (by kernel_rfl) (by kernel_rfl)
instance eq82 : EQ Try.prog 82 [.int .i64, .string, .int .i64] := .mk' ti82 (by kernel_rfl) (by kernel_rfl) (by kernel_rfl)
instance eq99 : EQ Try.prog 99 [.int .i64] := .mk' ti99 (by kernel_rfl) (by kernel_rfl) (by kernel_rfl)
instance pl7 : PL Try.prog 7 [(0, 1), (1, 1), (2, 1), (3, 1)] := ⟨by kernel_rfl⟩
instance pl8 : PL Try.prog 8 [(0, 1), (1, 1), (2, 1), (3, 1)] := ⟨by kernel_rfl⟩
instance pl13 : PL Try.prog 13 [(0, 1), (1, 1)] := ⟨by kernel_rfl⟩
instance pl14 : PL Try.prog 14 [(0, 1), (1, 1)] := ⟨by kernel_rfl⟩
instance pl18 : PL Try.prog 18 [(0, 1)] := ⟨by kernel_rfl⟩
instance pl19 : PL Try.prog 19 [(0, 1)] := ⟨by kernel_rfl⟩
instance pl24 : PL Try.prog 24 [(0, 1), (1, 1), (2, 1)] := ⟨by kernel_rfl⟩
instance pl25 : PL Try.prog 25 [(0, 1), (1, 1), (2, 1)] := ⟨by kernel_rfl⟩
instance pl43 : PL Try.prog 43 [(0, 1), (1, 1)] := ⟨by kernel_rfl⟩
instance pl44 : PL Try.prog 44 [(0, 1), (1, 1)] := ⟨by kernel_rfl⟩
instance pl45 : PL Try.prog 45 [(0, 1), (1, 1)] := ⟨by kernel_rfl⟩
instance pl46 : PL Try.prog 46 [(0, 1), (1, 1)] := ⟨by kernel_rfl⟩
instance pl52 : PL Try.prog 52 [(0, 1), (1, 1)] := ⟨by kernel_rfl⟩
instance pl53 : PL Try.prog 53 [(0, 1), (1, 1)] := ⟨by kernel_rfl⟩
instance pl66 : PL Try.prog 66 [(0, 1), (1, 1), (2, 1)] := ⟨by kernel_rfl⟩
instance pl67 : PL Try.prog 67 [(0, 1), (1, 1), (2, 1)] := ⟨by kernel_rfl⟩
instance pl81 : PL Try.prog 81 [(0, 1), (1, 1), (2, 1)] := ⟨by kernel_rfl⟩
instance pl82 : PL Try.prog 82 [(0, 1), (1, 1), (2, 1)] := ⟨by kernel_rfl⟩
instance pl83 : PL Try.prog 83 [(0, 3), (3, 1)] := ⟨by kernel_rfl⟩
instance pl84 : PL Try.prog 84 [(0, 3), (3, 1)] := ⟨by kernel_rfl⟩
instance pl98 : PL Try.prog 98 [(0, 1)] := ⟨by kernel_rfl⟩
instance pl99 : PL Try.prog 99 [(0, 1)] := ⟨by kernel_rfl⟩
instance pl105 : PL Try.prog 105 [(0, 1), (1, 1), (2, 1)] := ⟨by kernel_rfl⟩
instance pl106 : PL Try.prog 106 [(0, 1), (1, 1), (2, 1)] := ⟨by kernel_rfl⟩
instance pl115 : PL Try.prog 115 [(0, 1), (1, 3)] := ⟨by kernel_rfl⟩
instance pl116 : PL Try.prog 116 [(0, 1), (1, 3)] := ⟨by kernel_rfl⟩
instance pl127 : PL Try.prog 127 [(0, 1), (1, 1), (2, 1), (3, 1)] := ⟨by kernel_rfl⟩
instance pl128 : PL Try.prog 128 [(0, 1), (1, 1), (2, 1), (3, 1)] := ⟨by kernel_rfl⟩
instance : Mixed Try.prog := ⟨by kernel_rfl⟩
end Go.Proofs.Ytfjfbapiheehaaa.V
end
section
namespace Go.Proofs.Ytfjfbapiheehaaa.P
open Go.RowKit Go.Proofs.YtfjfbapiheehaaaW.PrintWords Go.Proofs.YtfjfbapiheehaaaW.PrintLast Go.Proofs.YtfjfbapiheehaaaW.PrintMore
attribute [local go_sem] max2_int min2_int max_two min_two max_three min_three max_four min_four   -- for this text's walks alone
set_option linter.unusedVariables false
set_option linter.unusedSimpArgs false
theorem info82 : (Try.prog.info? 82).map (fun i => (i.zero, i.size, i.bytes)) = some (some (.agg #[(.int .i64 0), (.string ⟨#[]⟩), (.int .i64 0)]), 3, 32) := by kernel_rfl
theorem info84 : (Try.prog.info? 84).map (fun i => (i.zero, i.size, i.bytes)) = some (some (.agg #[(.int .i64 0), (.string ⟨#[]⟩), (.int .i64 0), (.slice none 0 0)]), 4, 56) := by kernel_rfl
structure S46 where
 f0 : Int
 f1 : (List Int)
structure S44 where
 f0 : Int
 f1 : Int
structure S82 where
 f0 : Int
 f1 : ByteArray
 f2 : Int
def z82 : S82 := ⟨(0 : Int), (⟨#[]⟩ : ByteArray), (0 : Int)⟩
def k82 : Kd S82 := Kd.iso (Kd.pair (Kd.int .i64) (Kd.pair Kd.string (Kd.int .i64))) (fun x : S82 => (x.f0, x.f1, x.f2))
theorem k82_open {w : World} {x : S82} {cs : List Value} (h : k82.K w x cs) : cs = [.int .i64 x.f0, .string x.f1, .int .i64 x.f2] := by
 obtain ⟨_, _, rfl, rfl, ⟨_, _, rfl, rfl, rfl⟩⟩ := h
 exact rfl
theorem k82_openM {w : World} {base : Nat} {ok : Nat → Prop} {x : S82} {cs : List Value} (h : k82.M w base ok x cs) : cs = [.int .i64 x.f0, .string x.f1, .int .i64 x.f2] := by
 obtain ⟨_, _, rfl, rfl, ⟨_, _, rfl, rfl, rfl⟩⟩ := h
 exact rfl
theorem k82_mk (w : World) (x : S82)  : k82.K w x [.int .i64 x.f0, .string x.f1, .int .i64 x.f2] := ⟨[.int .i64 x.f0], [.string x.f1, .int .i64 x.f2], rfl, rfl, ⟨[.string x.f1], [.int .i64 x.f2], rfl, rfl, rfl⟩⟩
theorem k82_mkM (w : World) (base : Nat) (ok : Nat → Prop) (x : S82)  : k82.M w base ok x [.int .i64 x.f0, .string x.f1, .int .i64 x.f2] := ⟨[.int .i64 x.f0], [.string x.f1, .int .i64 x.f2], rfl, rfl, ⟨[.string x.f1], [.int .i64 x.f2], rfl, rfl, rfl⟩⟩
def rd_T82 (xs : List S82) (i : Int) : S82 := xs.getD i.toNat z82
theorem at_T82 {w : World} {A : Option Addr} {n : Nat} {xs : List S82} (h : Kd.C k82 w A n xs) (i : Int) (h0 : 0 ≤ i) (h1 : i < n) : ∃ ad , A = some ad ∧ w.cell? (ad.add (i.toNat * 3)) = some (.int .i64 (rd_T82 xs i).f0) ∧ w.cell? ⟨(ad.add (i.toNat * 3)).block, (ad.add (i.toNat * 3)).off + 1, none⟩ = some (.string (rd_T82 xs i).f1) ∧ w.cell? ⟨(ad.add (i.toNat * 3)).block, (ad.add (i.toNat * 3)).off + 2, none⟩ = some (.int .i64 (rd_T82 xs i).f2) := by
 obtain ⟨ad, c, e, _, hK, hc0⟩ := Kd.C_get h z82 i h0 h1
 have hc : ∀ j u, c[j]? = some u → w.cell? (ad.add (i.toNat * 3 + j)) = some u := hc0
 obtain rfl := k82_open hK
 exact ⟨ad, e, hc 0 _ rfl, by rw [← add_field _ _ 1 (by omega)]; exact hc 1 _ rfl, by rw [← add_field _ _ 2 (by omega)]; exact hc 2 _ rfl⟩
structure S53 where
 f0 : Int
 f1 : Int
structure S84 where
 f0 : S82
 f1 : (List S82)
def k84 : Kd S84 := Kd.iso (Kd.pair k82 (Kd.slice 82 k82)) (fun x : S84 => (x.f0, x.f1))
theorem k84_openM {w : World} {base : Nat} {ok : Nat → Prop} {x : S84} {cs : List Value} (h : k84.M w base ok x cs) : ∃ v3, cs = [.int .i64 x.f0.f0, .string x.f0.f1, .int .i64 x.f0.f2, v3] ∧ k82.R 82 w base ok v3 x.f1 := by
 obtain ⟨_, _, rfl, s0, ⟨v3, rfl, g3⟩⟩ := h
 obtain rfl := k82_openM s0
 exact ⟨v3, rfl, g3⟩
theorem k84_mkM (w : World) (base : Nat) (ok : Nat → Prop) (x : S84) {v3 : Value} (g3 : k82.R 82 w base ok v3 x.f1) : k84.M w base ok x [.int .i64 x.f0.f0, .string x.f0.f1, .int .i64 x.f0.f2, v3] := ⟨[.int .i64 x.f0.f0, .string x.f0.f1, .int .i64 x.f0.f2], [v3], rfl, (k82_mkM w base ok x.f0 ), ⟨v3, rfl, g3⟩⟩
end Go.Proofs.Ytfjfbapiheehaaa.P
end
section
namespace Go.Proofs.Ytfjfbapiheehaaa.P
open Go.RowKit Go.Proofs.YtfjfbapiheehaaaW.PrintWords Go.Proofs.YtfjfbapiheehaaaW.PrintLast Go.Proofs.YtfjfbapiheehaaaW.PrintMore
attribute [local go_sem] max2_int min2_int max_two min_two max_three min_three max_four min_four   -- for this text's walks alone
set_option linter.unusedVariables false
set_option linter.unusedSimpArgs false
def topiaristref01_letter.f (a0 : Int) : Option (Bool) := if a0 ≥ 97 then (if a0 ≤ 122 then (some true) else (if a0 ≥ 65 then (some (decide (a0 ≤ 90))) else (some false))) else (if a0 ≥ 65 then (some (decide (a0 ≤ 90))) else (some false))
set_option maxHeartbeats 8000000 in
set_option maxRecDepth 100000 in
theorem topiaristref01_letter.calls (a0 : Int) (r : Bool) (w : World) (h : topiaristref01_letter.f a0 = some r) :
  Calls Try.prog 68 #[.int .u8 a0] w fun e w' => e = .returned (.bool r) ∧ Drawn0 w w' := by
 have H : (if a0 ≥ 97 then (if a0 ≤ 122 then (some true) else (if a0 ≥ 65 then (some (decide (a0 ≤ 90))) else (some false))) else (if a0 ≥ 65 then (some (decide (a0 ≤ 90))) else (some false))) = some r := h
 clear h
 by_cases c2 : a0 ≥ 97
 ·rw [if_pos c2] at H
  have c2b0 : decide (97 ≤ a0) = true := decide_eq_true c2
  clear c2
  by_cases c3 : a0 ≤ 122
  ·rw [if_pos c3] at H
   have c3b0 : decide (a0 ≤ 122) = true := decide_eq_true c3
   clear c3
   obtain rfl := Option.some.inj H
   go_enter Try.func68, Try.ntmps68
   go_wp2
   go_ret
   exact ⟨by first | rfl | (simp; done) | (simp [*]; done), by repeat (first | exact Drawn0.refl _ | apply Drawn0.step)⟩
  ·rw [if_neg c3] at H
   have c3b0 : decide (a0 ≤ 122) = false := decide_eq_false c3
   clear c3
   by_cases c4 : a0 ≥ 65
   ·rw [if_pos c4] at H
    have c4b0 : decide (65 ≤ a0) = true := decide_eq_true c4
    clear c4
    obtain rfl := Option.some.inj H
    go_enter Try.func68, Try.ntmps68
    go_wp2
    go_ret
    exact ⟨by first | rfl | (simp; done) | (simp [*]; done), by repeat (first | exact Drawn0.refl _ | apply Drawn0.step)⟩
   ·rw [if_neg c4] at H
    have c4b0 : decide (65 ≤ a0) = false := decide_eq_false c4
    clear c4
    obtain rfl := Option.some.inj H
    go_enter Try.func68, Try.ntmps68
    go_wp2
    go_ret
    exact ⟨by first | rfl | (simp; done) | (simp [*]; done), by repeat (first | exact Drawn0.refl _ | apply Drawn0.step)⟩
 ·rw [if_neg c2] at H
  have c2b0 : decide (97 ≤ a0) = false := decide_eq_false c2
  clear c2
  by_cases c5 : a0 ≥ 65
  ·rw [if_pos c5] at H
   have c5b0 : decide (65 ≤ a0) = true := decide_eq_true c5
   clear c5
   obtain rfl := Option.some.inj H
   go_enter Try.func68, Try.ntmps68
   go_wp2
   go_ret
   exact ⟨by first | rfl | (simp; done) | (simp [*]; done), by repeat (first | exact Drawn0.refl _ | apply Drawn0.step)⟩
  ·rw [if_neg c5] at H
   have c5b0 : decide (65 ≤ a0) = false := decide_eq_false c5
   clear c5
   obtain rfl := Option.some.inj H
   go_enter Try.func68, Try.ntmps68
   go_wp2
   go_ret
   exact ⟨by first | rfl | (simp; done) | (simp [*]; done), by repeat (first | exact Drawn0.refl _ | apply Drawn0.step)⟩
end Go.Proofs.Ytfjfbapiheehaaa.P
end
section
namespace Go.Proofs.Ytfjfbapiheehaaa.P
open Go.RowKit Go.Proofs.YtfjfbapiheehaaaW.PrintWords Go.Proofs.YtfjfbapiheehaaaW.PrintLast Go.Proofs.YtfjfbapiheehaaaW.PrintMore
attribute [local go_sem] max2_int min2_int max_two min_two max_three min_three max_four min_four   -- for this text's walks alone
set_option linter.unusedVariables false
set_option linter.unusedSimpArgs false
def topiaristref01_more.f (a0 : Int) : Option (Bool) := (topiaristref01_letter.f a0).bind fun t101 => (if t101 = true then (some true) else (if a0 ≥ 48 then (if a0 ≤ 57 then (some true) else (some (a0 == 95))) else (some (a0 == 95))))
set_option maxHeartbeats 8000000 in
set_option maxRecDepth 100000 in
theorem topiaristref01_more.calls (a0 : Int) (r : Bool) (w : World) (h : topiaristref01_more.f a0 = some r) :
  Calls Try.prog 67 #[.int .u8 a0] w fun e w' => e = .returned (.bool r) ∧ Drawn0 w w' := by
 have H : ((topiaristref01_letter.f a0).bind fun t101 => (if t101 = true then (some true) else (if a0 ≥ 48 then (if a0 ≤ 57 then (some true) else (some (a0 == 95))) else (some (a0 == 95))))) = some r := h
 clear h
 replace H := Option.bind_eq_some_iff.mp H
 obtain ⟨t101, A20, H⟩ := H
 replace H : (if t101 = true then (some true) else (if a0 ≥ 48 then (if a0 ≤ 57 then (some true) else (some (a0 == 95))) else (some (a0 == 95)))) = some r := H
 have A2 := Aside0.mk A20
 clear A20
 by_cases c3 : t101 = true
 ·subst c3
  have H1 : (some true) = some r := by rw [if_pos rfl] at H; exact H
  clear H
  have H := H1
  clear H1
  obtain rfl := Option.some.inj H
  go_enter Try.func67, Try.ntmps67
  go_wp2_with (first | ((with_reducible refine gate_callee (f := 68) rfl ?_); refine goesL_ (some 4) rfl rfl Try.func68 (by kernel_rfl) rfl #[.int .u8 a0] rfl (by (try simp only [List.map_toArray, List.map_cons, List.map_nil]); first | done | rfl | (simp only [List.length_drop, List.length_take]; rfl)) ?_; (with_reducible refine (topiaristref01_letter.calls a0 true _ A2.out).mono ?_); rintro e w' ⟨rfl, ⟨nd, rfl⟩⟩; refine ⟨_, rfl, ?_⟩))
  go_ret
  exact ⟨by first | rfl | (simp; done) | (simp [*]; done), by repeat (first | exact Drawn0.refl _ | apply Drawn0.step)⟩
 ·replace c3 := Bool.eq_false_iff.mpr c3
  subst c3
  have H1 : (if a0 ≥ 48 then (if a0 ≤ 57 then (some true) else (some (a0 == 95))) else (some (a0 == 95))) = some r := by rw [if_neg (show ¬ (false = true) by decide)] at H; exact H
  clear H
  have H := H1
  clear H1
  by_cases c4 : a0 ≥ 48
  ·rw [if_pos c4] at H
   have c4b0 : decide (48 ≤ a0) = true := decide_eq_true c4
   clear c4
   by_cases c5 : a0 ≤ 57
   ·rw [if_pos c5] at H
    have c5b0 : decide (a0 ≤ 57) = true := decide_eq_true c5
    clear c5
    obtain rfl := Option.some.inj H
    go_enter Try.func67, Try.ntmps67
    go_wp2_with (first | ((with_reducible refine gate_callee (f := 68) rfl ?_); refine goesL_ (some 4) rfl rfl Try.func68 (by kernel_rfl) rfl #[.int .u8 a0] rfl (by (try simp only [List.map_toArray, List.map_cons, List.map_nil]); first | done | rfl | (simp only [List.length_drop, List.length_take]; rfl)) ?_; (with_reducible refine (topiaristref01_letter.calls a0 false _ A2.out).mono ?_); rintro e w' ⟨rfl, ⟨nd, rfl⟩⟩; refine ⟨_, rfl, ?_⟩))
    go_ret
    exact ⟨by first | rfl | (simp; done) | (simp [*]; done), by repeat (first | exact Drawn0.refl _ | apply Drawn0.step)⟩
   ·rw [if_neg c5] at H
    have c5b0 : decide (a0 ≤ 57) = false := decide_eq_false c5
    clear c5
    obtain rfl := Option.some.inj H
    go_enter Try.func67, Try.ntmps67
    go_wp2_with (first | ((with_reducible refine gate_callee (f := 68) rfl ?_); refine goesL_ (some 4) rfl rfl Try.func68 (by kernel_rfl) rfl #[.int .u8 a0] rfl (by (try simp only [List.map_toArray, List.map_cons, List.map_nil]); first | done | rfl | (simp only [List.length_drop, List.length_take]; rfl)) ?_; (with_reducible refine (topiaristref01_letter.calls a0 false _ A2.out).mono ?_); rintro e w' ⟨rfl, ⟨nd, rfl⟩⟩; refine ⟨_, rfl, ?_⟩))
    go_ret
    exact ⟨by first | rfl | (simp; done) | (simp [*]; done), by repeat (first | exact Drawn0.refl _ | apply Drawn0.step)⟩
  ·rw [if_neg c4] at H
   have c4b0 : decide (48 ≤ a0) = false := decide_eq_false c4
   clear c4
   obtain rfl := Option.some.inj H
   go_enter Try.func67, Try.ntmps67
   go_wp2_with (first | ((with_reducible refine gate_callee (f := 68) rfl ?_); refine goesL_ (some 4) rfl rfl Try.func68 (by kernel_rfl) rfl #[.int .u8 a0] rfl (by (try simp only [List.map_toArray, List.map_cons, List.map_nil]); first | done | rfl | (simp only [List.length_drop, List.length_take]; rfl)) ?_; (with_reducible refine (topiaristref01_letter.calls a0 false _ A2.out).mono ?_); rintro e w' ⟨rfl, ⟨nd, rfl⟩⟩; refine ⟨_, rfl, ?_⟩))
   go_ret
   exact ⟨by first | rfl | (simp; done) | (simp [*]; done), by repeat (first | exact Drawn0.refl _ | apply Drawn0.step)⟩
end Go.Proofs.Ytfjfbapiheehaaa.P
end
section
namespace Go.Proofs.Ytfjfbapiheehaaa.P
open Go.RowKit Go.Proofs.YtfjfbapiheehaaaW.PrintWords Go.Proofs.YtfjfbapiheehaaaW.PrintLast Go.Proofs.YtfjfbapiheehaaaW.PrintMore
attribute [local go_sem] max2_int min2_int max_two min_two max_three min_three max_four min_four   -- for this text's walks alone
set_option linter.unusedVariables false
set_option linter.unusedSimpArgs false
def topiaristref01_IsName.l0 : Nat → ByteArray → Int → Option (Bool)
 | 0, _, _ => none
 | k + 1, x0, x3 => if x3 < (x0.size : Int) then (if 0 ≤ x3 then ((topiaristref01_more.f (bt x0 x3)).bind fun t102 => (if t102 = true then (topiaristref01_IsName.l0 k x0 (wrap64 (x3 + 1))) else (some false))) else (none)) else (if (x0.size : Int) ≥ 1 then (if (x0.size : Int) ≤ 16 then (if 0 < (x0.size : Int) then ((topiaristref01_letter.f (bt x0 0)).bind fun t101 => (some t101)) else (none)) else (some false)) else (some false))
def topiaristref01_IsName.f (k : Nat) (a0 : ByteArray) : Option (Bool) := topiaristref01_IsName.l0 k a0 0
theorem topiaristref01_IsName.mono_l : ∀ k, (∀ y0 y1, LeO (topiaristref01_IsName.l0 k y0 y1) (topiaristref01_IsName.l0 (k + 1) y0 y1))
 | 0 => fun _ _ r h => by simp [topiaristref01_IsName.l0] at h
 | k + 1 => by
  have ih0 := topiaristref01_IsName.mono_l k
  ·intro y0 y1
   unfold topiaristref01_IsName.l0
   repeat' first
   | (with_reducible exact ih0 _ _)
   | (with_reducible exact LeO.refl _)
   | (with_reducible exact LeO.none _)
   | (with_reducible refine LeO.ite ?_ ?_)
   | (with_reducible refine LeO.bind ?_ (fun _ => ?_))
   | exact ih0 _ _
   | exact LeO.none _
   | refine LeO.ite ?_ ?_
   | refine LeO.bind ?_ (fun _ => ?_)
theorem topiaristref01_IsName.mono : ∀ a0 k, LeO (topiaristref01_IsName.f k a0) (topiaristref01_IsName.f (k + 1) a0) := by
 intro a0 k
 have ih0 := topiaristref01_IsName.mono_l k
 unfold topiaristref01_IsName.f
 repeat' first
   | (with_reducible exact ih0 _ _)
   | (with_reducible exact LeO.refl _)
   | (with_reducible exact LeO.none _)
   | (with_reducible refine LeO.ite ?_ ?_)
   | (with_reducible refine LeO.bind ?_ (fun _ => ?_))
   | exact ih0 _ _
   | exact LeO.none _
   | refine LeO.ite ?_ ?_
   | refine LeO.bind ?_ (fun _ => ?_)
set_option maxHeartbeats 8000000 in
set_option maxRecDepth 100000 in
theorem topiaristref01_IsName.calls (k : Nat) (a0 : ByteArray) (r : Bool) (w : World) (h : topiaristref01_IsName.f k a0 = some r) :
  Calls Try.prog 43 #[.string a0] w fun e w' => e = .returned (.bool r) ∧ Drawn0 w w' := by
 have H : (topiaristref01_IsName.l0 k a0 0) = some r := h
 clear h
 have H' := Aside0.mk H
 clear H
 go_enter Try.func43, Try.ntmps43
 go_wp2
 go_loopg [3] k (fun kq v3 w' => ∃ (x3_1 : Int), v3 = .int .i64 x3_1 ∧ Aside0 (topiaristref01_IsName.l0 kq a0 x3_1 = some r) ∧ Aside0 (kq ≤ k) ∧ Drawn0 w w')
 case atStart => exact ⟨(0), (by first | rfl | (simp; done) | (simp [*]; done)), H', ⟨Nat.le_refl _⟩, by repeat (first | exact Drawn0.refl _ | apply Drawn0.step)⟩
 case round =>
  clear H'
  obtain ⟨x3_1, rfl, HA, HK1, ⟨m1, rfl⟩⟩ := hrel
  cases gk with
  | zero => exact absurd HA.out (by simp [topiaristref01_IsName.l0])
  | succ k1 =>
   have H := HA.out
   clear HA
   simp only [topiaristref01_IsName.l0] at H
   by_cases c2 : x3_1 < (a0.size : Int)
   ·rw [if_pos c2] at H
    have c2b0 : decide (x3_1 < (a0.size : Int)) = true := decide_eq_true c2
    clear c2
    by_cases c3 : 0 ≤ x3_1
    ·rw [if_pos c3] at H
     have c3b0 : decide (0 ≤ x3_1) = true := decide_eq_true c3
     clear c3
     replace H := Option.bind_eq_some_iff.mp H
     obtain ⟨t102, A50, H⟩ := H
     replace H : (if t102 = true then (topiaristref01_IsName.l0 k1 a0 (wrap64 (x3_1 + 1))) else (some false)) = some r := H
     have A5 := Aside0.mk A50
     clear A50
     by_cases c6 : t102 = true
     ·subst c6
      have H1 : (topiaristref01_IsName.l0 k1 a0 (wrap64 (x3_1 + 1))) = some r := by rw [if_pos rfl] at H; exact H
      clear H
      have H := H1
      clear H1
      have H' := Aside0.mk H
      clear H
      have p4 : 0 ≤ (x3_1 : Int) := of_decide_eq_true (by first | (with_reducible assumption) | assumption)
      have q4 : x3_1 < (a0.size : Int) := of_decide_eq_true (by first | (with_reducible assumption) | assumption)
      have hx4 := bt_at a0 x3_1
      replace p4 := eq_true p4
      replace q4 := eq_true q4
      go_wp2_with (first | ((with_reducible refine gate_callee (f := 67) rfl ?_); refine goesL_ (some 13) rfl rfl Try.func67 (by kernel_rfl) rfl #[.int .u8 (bt a0 x3_1)] rfl (by (try simp only [List.map_toArray, List.map_cons, List.map_nil]); first | done | rfl | (simp only [List.length_drop, List.length_take]; rfl)) ?_; (with_reducible refine (topiaristref01_more.calls (bt a0 x3_1) true _ A5.out).mono ?_); rintro e w' ⟨rfl, ⟨nd, rfl⟩⟩; refine ⟨_, rfl, ?_⟩))
      go_roundg k1
      case measure => have := HK1.out; omega
      case rel => exact ⟨(wrap64 (x3_1 + 1)), (by first | rfl | (simp; done) | (simp [*]; done)), H', ⟨by have := HK1.out; omega⟩, by repeat (first | exact Drawn0.refl _ | apply Drawn0.step)⟩
     ·replace c6 := Bool.eq_false_iff.mpr c6
      subst c6
      have H1 : (some false) = some r := by rw [if_neg (show ¬ (false = true) by decide)] at H; exact H
      clear H
      have H := H1
      clear H1
      obtain rfl := Option.some.inj H
      have p4 : 0 ≤ (x3_1 : Int) := of_decide_eq_true (by first | (with_reducible assumption) | assumption)
      have q4 : x3_1 < (a0.size : Int) := of_decide_eq_true (by first | (with_reducible assumption) | assumption)
      have hx4 := bt_at a0 x3_1
      replace p4 := eq_true p4
      replace q4 := eq_true q4
      go_wp2_with (first | ((with_reducible refine gate_callee (f := 67) rfl ?_); refine goesL_ (some 13) rfl rfl Try.func67 (by kernel_rfl) rfl #[.int .u8 (bt a0 x3_1)] rfl (by (try simp only [List.map_toArray, List.map_cons, List.map_nil]); first | done | rfl | (simp only [List.length_drop, List.length_take]; rfl)) ?_; (with_reducible refine (topiaristref01_more.calls (bt a0 x3_1) false _ A5.out).mono ?_); rintro e w' ⟨rfl, ⟨nd, rfl⟩⟩; refine ⟨_, rfl, ?_⟩))
      go_ret
      exact ⟨by first | rfl | (simp; done) | (simp [*]; done), by repeat (first | exact Drawn0.refl _ | apply Drawn0.step)⟩
    ·rw [if_neg c3] at H
     exact absurd H (by simp)
   ·rw [if_neg c2] at H
    have c2b0 : decide (x3_1 < (a0.size : Int)) = false := decide_eq_false c2
    clear c2
    by_cases c7 : (a0.size : Int) ≥ 1
    ·rw [if_pos c7] at H
     have c7b0 : decide (1 ≤ (a0.size : Int)) = true := decide_eq_true c7
     have c7b1 : decide (1 ≤ a0.size) = true := decide_eq_true (by omega)
     clear c7
     by_cases c8 : (a0.size : Int) ≤ 16
     ·rw [if_pos c8] at H
      have c8b0 : decide ((a0.size : Int) ≤ 16) = true := decide_eq_true c8
      have c8b1 : decide (a0.size ≤ 16) = true := decide_eq_true (by omega)
      clear c8
      by_cases c9 : 0 < (a0.size : Int)
      ·rw [if_pos c9] at H
       have c9b0 : decide (0 < (a0.size : Int)) = true := decide_eq_true c9
       have c9b1 : decide (0 < a0.size) = true := decide_eq_true (by omega)
       clear c9
       replace H := Option.bind_eq_some_iff.mp H
       obtain ⟨t101, A110, H⟩ := H
       replace H : (some t101) = some r := H
       have A11 := Aside0.mk A110
       clear A110
       obtain rfl := Option.some.inj H
       have p10 : 0 ≤ (0 : Int) := (by omega)
       have q10 : 0 < a0.size := (by have : (0 : Int) < (a0.size : Int) := of_decide_eq_true (by first | (with_reducible assumption) | assumption); omega)
       have hx10 : ∀ h : 0 < a0.size, ((a0[0]'h).toNat : Int) = bt a0 0 := bt_at a0 0
       clear p10
       have qi10 : (0 < (a0.size : Int)) = True := eq_true (of_decide_eq_true (by first | (with_reducible assumption) | assumption))
       replace q10 := eq_true q10
       go_wp2_with (first | (go_at_call 68; (with_reducible refine (topiaristref01_letter.calls (bt a0 0) t101 _ A11.out).mono ?_); rintro e w' ⟨rfl, ⟨nd, rfl⟩⟩))
       go_ret
       exact ⟨by first | rfl | (simp; done) | (simp [*]; done), by repeat (first | exact Drawn0.refl _ | apply Drawn0.step)⟩
      ·rw [if_neg c9] at H
       exact absurd H (by simp)
     ·rw [if_neg c8] at H
      have c8b0 : decide ((a0.size : Int) ≤ 16) = false := decide_eq_false c8
      have c8b1 : decide (a0.size ≤ 16) = false := decide_eq_false (by omega)
      clear c8
      obtain rfl := Option.some.inj H
      go_wp2
      go_ret
      exact ⟨by first | rfl | (simp; done) | (simp [*]; done), by repeat (first | exact Drawn0.refl _ | apply Drawn0.step)⟩
    ·rw [if_neg c7] at H
     have c7b0 : decide (1 ≤ (a0.size : Int)) = false := decide_eq_false c7
     have c7b1 : decide (1 ≤ a0.size) = false := decide_eq_false (by omega)
     clear c7
     obtain rfl := Option.some.inj H
     go_wp2
     go_ret
     exact ⟨by first | rfl | (simp; done) | (simp [*]; done), by repeat (first | exact Drawn0.refl _ | apply Drawn0.step)⟩
end Go.Proofs.Ytfjfbapiheehaaa.P
end
section
namespace Go.Proofs.Ytfjfbapiheehaaa.P
open Go.RowKit Go.Proofs.YtfjfbapiheehaaaW.PrintWords Go.Proofs.YtfjfbapiheehaaaW.PrintLast Go.Proofs.YtfjfbapiheehaaaW.PrintMore
attribute [local go_sem] max2_int min2_int max_two min_two max_three min_three max_four min_four   -- for this text's walks alone
set_option linter.unusedVariables false
set_option linter.unusedSimpArgs false
def topiaristref01_IsTerm.l0 : Nat → ByteArray → Int → Option (Bool)
 | 0, _, _ => none
 | k + 1, x0, x3 => if x3 < (x0.size : Int) then (if 0 ≤ x3 then (if (bt x0 x3) < 32 then (some false) else (if (bt x0 x3) > 126 then (some false) else (if (bt x0 x3) = 39 then (some false) else (topiaristref01_IsTerm.l0 k x0 (wrap64 (x3 + 1)))))) else (none)) else (if (x0.size : Int) ≥ 1 then (some (decide ((x0.size : Int) ≤ 16))) else (some false))
def topiaristref01_IsTerm.f (k : Nat) (a0 : ByteArray) : Option (Bool) := topiaristref01_IsTerm.l0 k a0 0
theorem topiaristref01_IsTerm.mono_l : ∀ k, (∀ y0 y1, LeO (topiaristref01_IsTerm.l0 k y0 y1) (topiaristref01_IsTerm.l0 (k + 1) y0 y1))
 | 0 => fun _ _ r h => by simp [topiaristref01_IsTerm.l0] at h
 | k + 1 => by
  have ih0 := topiaristref01_IsTerm.mono_l k
  ·intro y0 y1
   unfold topiaristref01_IsTerm.l0
   repeat' first
   | (with_reducible exact ih0 _ _)
   | (with_reducible exact LeO.refl _)
   | (with_reducible exact LeO.none _)
   | (with_reducible refine LeO.ite ?_ ?_)
   | (with_reducible refine LeO.bind ?_ (fun _ => ?_))
   | exact ih0 _ _
   | exact LeO.none _
   | refine LeO.ite ?_ ?_
   | refine LeO.bind ?_ (fun _ => ?_)
theorem topiaristref01_IsTerm.mono : ∀ a0 k, LeO (topiaristref01_IsTerm.f k a0) (topiaristref01_IsTerm.f (k + 1) a0) := by
 intro a0 k
 have ih0 := topiaristref01_IsTerm.mono_l k
 unfold topiaristref01_IsTerm.f
 repeat' first
   | (with_reducible exact ih0 _ _)
   | (with_reducible exact LeO.refl _)
   | (with_reducible exact LeO.none _)
   | (with_reducible refine LeO.ite ?_ ?_)
   | (with_reducible refine LeO.bind ?_ (fun _ => ?_))
   | exact ih0 _ _
   | exact LeO.none _
   | refine LeO.ite ?_ ?_
   | refine LeO.bind ?_ (fun _ => ?_)
set_option maxHeartbeats 8000000 in
set_option maxRecDepth 100000 in
theorem topiaristref01_IsTerm.calls (k : Nat) (a0 : ByteArray) (r : Bool) (w : World) (h : topiaristref01_IsTerm.f k a0 = some r) :
  Calls Try.prog 45 #[.string a0] w fun e w' => e = .returned (.bool r) ∧ Drawn0 w w' := by
 have H : (topiaristref01_IsTerm.l0 k a0 0) = some r := h
 clear h
 have H' := Aside0.mk H
 clear H
 go_enter Try.func45, Try.ntmps45
 go_wp2
 go_loopg [3] k (fun kq v3 w' => ∃ (x3_1 : Int), v3 = .int .i64 x3_1 ∧ Aside0 (topiaristref01_IsTerm.l0 kq a0 x3_1 = some r) ∧ Aside0 (kq ≤ k) ∧ Drawn0 w w')
 case atStart => exact ⟨(0), (by first | rfl | (simp; done) | (simp [*]; done)), H', ⟨Nat.le_refl _⟩, by repeat (first | exact Drawn0.refl _ | apply Drawn0.step)⟩
 case round =>
  clear H'
  obtain ⟨x3_1, rfl, HA, HK1, ⟨m1, rfl⟩⟩ := hrel
  cases gk with
  | zero => exact absurd HA.out (by simp [topiaristref01_IsTerm.l0])
  | succ k1 =>
   have H := HA.out
   clear HA
   simp only [topiaristref01_IsTerm.l0] at H
   by_cases c2 : x3_1 < (a0.size : Int)
   ·rw [if_pos c2] at H
    have c2b0 : decide (x3_1 < (a0.size : Int)) = true := decide_eq_true c2
    clear c2
    by_cases c3 : 0 ≤ x3_1
    ·rw [if_pos c3] at H
     have c3b0 : decide (0 ≤ x3_1) = true := decide_eq_true c3
     clear c3
     by_cases c5 : (bt a0 x3_1) < 32
     ·rw [if_pos c5] at H
      have c5b0 : decide ((bt a0 x3_1) < 32) = true := decide_eq_true c5
      clear c5
      obtain rfl := Option.some.inj H
      have p4 : 0 ≤ (x3_1 : Int) := of_decide_eq_true (by first | (with_reducible assumption) | assumption)
      have q4 : x3_1 < (a0.size : Int) := of_decide_eq_true (by first | (with_reducible assumption) | assumption)
      have hx4 := bt_at a0 x3_1
      replace p4 := eq_true p4
      replace q4 := eq_true q4
      go_wp2
      go_ret
      exact ⟨by first | rfl | (simp; done) | (simp [*]; done), by repeat (first | exact Drawn0.refl _ | apply Drawn0.step)⟩
     ·rw [if_neg c5] at H
      have c5b0 : decide ((bt a0 x3_1) < 32) = false := decide_eq_false c5
      clear c5
      by_cases c7 : (bt a0 x3_1) > 126
      ·rw [if_pos c7] at H
       have c7b0 : decide (126 < (bt a0 x3_1)) = true := decide_eq_true c7
       clear c7
       obtain rfl := Option.some.inj H
       have p4 : 0 ≤ (x3_1 : Int) := of_decide_eq_true (by first | (with_reducible assumption) | assumption)
       have q4 : x3_1 < (a0.size : Int) := of_decide_eq_true (by first | (with_reducible assumption) | assumption)
       have hx4 := bt_at a0 x3_1
       replace p4 := eq_true p4
       replace q4 := eq_true q4
       have p6 : 0 ≤ (x3_1 : Int) := of_decide_eq_true (by first | (with_reducible assumption) | assumption)
       have q6 : x3_1 < (a0.size : Int) := of_decide_eq_true (by first | (with_reducible assumption) | assumption)
       have hx6 := bt_at a0 x3_1
       replace p6 := eq_true p6
       replace q6 := eq_true q6
       go_wp2
       go_ret
       exact ⟨by first | rfl | (simp; done) | (simp [*]; done), by repeat (first | exact Drawn0.refl _ | apply Drawn0.step)⟩
      ·rw [if_neg c7] at H
       have c7b0 : decide (126 < (bt a0 x3_1)) = false := decide_eq_false c7
       clear c7
       by_cases c9 : (bt a0 x3_1) = 39
       ·rw [if_pos c9] at H
        have c9b0 : ((bt a0 x3_1) == 39) = true := beq_iff_eq.mpr c9
        have c9b1 : ((bt a0 x3_1) != 39) = false := bne_eq_false_iff_eq.mpr c9
        clear c9
        obtain rfl := Option.some.inj H
        have p4 : 0 ≤ (x3_1 : Int) := of_decide_eq_true (by first | (with_reducible assumption) | assumption)
        have q4 : x3_1 < (a0.size : Int) := of_decide_eq_true (by first | (with_reducible assumption) | assumption)
        have hx4 := bt_at a0 x3_1
        replace p4 := eq_true p4
        replace q4 := eq_true q4
        have p6 : 0 ≤ (x3_1 : Int) := of_decide_eq_true (by first | (with_reducible assumption) | assumption)
        have q6 : x3_1 < (a0.size : Int) := of_decide_eq_true (by first | (with_reducible assumption) | assumption)
        have hx6 := bt_at a0 x3_1
        replace p6 := eq_true p6
        replace q6 := eq_true q6
        have p8 : 0 ≤ (x3_1 : Int) := of_decide_eq_true (by first | (with_reducible assumption) | assumption)
        have q8 : x3_1 < (a0.size : Int) := of_decide_eq_true (by first | (with_reducible assumption) | assumption)
        have hx8 := bt_at a0 x3_1
        replace p8 := eq_true p8
        replace q8 := eq_true q8
        go_wp2
        go_ret
        exact ⟨by first | rfl | (simp; done) | (simp [*]; done), by repeat (first | exact Drawn0.refl _ | apply Drawn0.step)⟩
       ·rw [if_neg c9] at H
        have c9b0 : ((bt a0 x3_1) == 39) = false := beq_eq_false_iff_ne.mpr c9
        have c9b1 : ((bt a0 x3_1) != 39) = true := bne_iff_ne.mpr c9
        have H' := Aside0.mk H
        clear H
        have p4 : 0 ≤ (x3_1 : Int) := of_decide_eq_true (by first | (with_reducible assumption) | assumption)
        have q4 : x3_1 < (a0.size : Int) := of_decide_eq_true (by first | (with_reducible assumption) | assumption)
        have hx4 := bt_at a0 x3_1
        replace p4 := eq_true p4
        replace q4 := eq_true q4
        have p6 : 0 ≤ (x3_1 : Int) := of_decide_eq_true (by first | (with_reducible assumption) | assumption)
        have q6 : x3_1 < (a0.size : Int) := of_decide_eq_true (by first | (with_reducible assumption) | assumption)
        have hx6 := bt_at a0 x3_1
        replace p6 := eq_true p6
        replace q6 := eq_true q6
        have p8 : 0 ≤ (x3_1 : Int) := of_decide_eq_true (by first | (with_reducible assumption) | assumption)
        have q8 : x3_1 < (a0.size : Int) := of_decide_eq_true (by first | (with_reducible assumption) | assumption)
        have hx8 := bt_at a0 x3_1
        replace p8 := eq_true p8
        replace q8 := eq_true q8
        go_wp2
        go_roundg k1
        case measure => have := HK1.out; omega
        case rel => exact ⟨(wrap64 (x3_1 + 1)), (by first | rfl | (simp; done) | (simp [*]; done)), H', ⟨by have := HK1.out; omega⟩, by repeat (first | exact Drawn0.refl _ | apply Drawn0.step)⟩
    ·rw [if_neg c3] at H
     exact absurd H (by simp)
   ·rw [if_neg c2] at H
    have c2b0 : decide (x3_1 < (a0.size : Int)) = false := decide_eq_false c2
    clear c2
    by_cases c10 : (a0.size : Int) ≥ 1
    ·rw [if_pos c10] at H
     have c10b0 : decide (1 ≤ (a0.size : Int)) = true := decide_eq_true c10
     have c10b1 : decide (1 ≤ a0.size) = true := decide_eq_true (by omega)
     clear c10
     obtain rfl := Option.some.inj H
     go_wp2
     go_ret
     exact ⟨by first | rfl | (simp; done) | (simp [*]; done), by repeat (first | exact Drawn0.refl _ | apply Drawn0.step)⟩
    ·rw [if_neg c10] at H
     have c10b0 : decide (1 ≤ (a0.size : Int)) = false := decide_eq_false c10
     have c10b1 : decide (1 ≤ a0.size) = false := decide_eq_false (by omega)
     clear c10
     obtain rfl := Option.some.inj H
     go_wp2
     go_ret
     exact ⟨by first | rfl | (simp; done) | (simp [*]; done), by repeat (first | exact Drawn0.refl _ | apply Drawn0.step)⟩
end Go.Proofs.Ytfjfbapiheehaaa.P
end
section
namespace Go.Proofs.Ytfjfbapiheehaaa.P
open Go.RowKit Go.Proofs.YtfjfbapiheehaaaW.PrintWords Go.Proofs.YtfjfbapiheehaaaW.PrintLast Go.Proofs.YtfjfbapiheehaaaW.PrintMore
attribute [local go_sem] max2_int min2_int max_two min_two max_three min_three max_four min_four   -- for this text's walks alone
set_option linter.unusedVariables false
set_option linter.unusedSimpArgs false
def lex_letter.f (a0 : Int) : Option (Bool) := if a0 ≥ 97 then (if a0 ≤ 122 then (some true) else (if a0 ≥ 65 then (some (decide (a0 ≤ 90))) else (some false))) else (if a0 ≥ 65 then (some (decide (a0 ≤ 90))) else (some false))
set_option maxHeartbeats 8000000 in
set_option maxRecDepth 100000 in
theorem lex_letter.calls (a0 : Int) (r : Bool) (w : World) (h : lex_letter.f a0 = some r) :
  Calls Try.prog 81 #[.int .u8 a0] w fun e w' => e = .returned (.bool r) ∧ Drawn0 w w' := by
 have H : (if a0 ≥ 97 then (if a0 ≤ 122 then (some true) else (if a0 ≥ 65 then (some (decide (a0 ≤ 90))) else (some false))) else (if a0 ≥ 65 then (some (decide (a0 ≤ 90))) else (some false))) = some r := h
 clear h
 by_cases c2 : a0 ≥ 97
 ·rw [if_pos c2] at H
  have c2b0 : decide (97 ≤ a0) = true := decide_eq_true c2
  clear c2
  by_cases c3 : a0 ≤ 122
  ·rw [if_pos c3] at H
   have c3b0 : decide (a0 ≤ 122) = true := decide_eq_true c3
   clear c3
   obtain rfl := Option.some.inj H
   go_enter Try.func81, Try.ntmps81
   go_wp2
   go_ret
   exact ⟨by first | rfl | (simp; done) | (simp [*]; done), by repeat (first | exact Drawn0.refl _ | apply Drawn0.step)⟩
  ·rw [if_neg c3] at H
   have c3b0 : decide (a0 ≤ 122) = false := decide_eq_false c3
   clear c3
   by_cases c4 : a0 ≥ 65
   ·rw [if_pos c4] at H
    have c4b0 : decide (65 ≤ a0) = true := decide_eq_true c4
    clear c4
    obtain rfl := Option.some.inj H
    go_enter Try.func81, Try.ntmps81
    go_wp2
    go_ret
    exact ⟨by first | rfl | (simp; done) | (simp [*]; done), by repeat (first | exact Drawn0.refl _ | apply Drawn0.step)⟩
   ·rw [if_neg c4] at H
    have c4b0 : decide (65 ≤ a0) = false := decide_eq_false c4
    clear c4
    obtain rfl := Option.some.inj H
    go_enter Try.func81, Try.ntmps81
    go_wp2
    go_ret
    exact ⟨by first | rfl | (simp; done) | (simp [*]; done), by repeat (first | exact Drawn0.refl _ | apply Drawn0.step)⟩
 ·rw [if_neg c2] at H
  have c2b0 : decide (97 ≤ a0) = false := decide_eq_false c2
  clear c2
  by_cases c5 : a0 ≥ 65
  ·rw [if_pos c5] at H
   have c5b0 : decide (65 ≤ a0) = true := decide_eq_true c5
   clear c5
   obtain rfl := Option.some.inj H
   go_enter Try.func81, Try.ntmps81
   go_wp2
   go_ret
   exact ⟨by first | rfl | (simp; done) | (simp [*]; done), by repeat (first | exact Drawn0.refl _ | apply Drawn0.step)⟩
  ·rw [if_neg c5] at H
   have c5b0 : decide (65 ≤ a0) = false := decide_eq_false c5
   clear c5
   obtain rfl := Option.some.inj H
   go_enter Try.func81, Try.ntmps81
   go_wp2
   go_ret
   exact ⟨by first | rfl | (simp; done) | (simp [*]; done), by repeat (first | exact Drawn0.refl _ | apply Drawn0.step)⟩
end Go.Proofs.Ytfjfbapiheehaaa.P
end
section
namespace Go.Proofs.Ytfjfbapiheehaaa.P
open Go.RowKit Go.Proofs.YtfjfbapiheehaaaW.PrintWords Go.Proofs.YtfjfbapiheehaaaW.PrintLast Go.Proofs.YtfjfbapiheehaaaW.PrintMore
attribute [local go_sem] max2_int min2_int max_two min_two max_three min_three max_four min_four   -- for this text's walks alone
set_option linter.unusedVariables false
set_option linter.unusedSimpArgs false
def lex_inner.f (a0 : Int) : Option (Bool) := (lex_letter.f a0).bind fun t101 => (if t101 = true then (some true) else (if a0 ≥ 48 then (if a0 ≤ 57 then (some true) else (some (a0 == 95))) else (some (a0 == 95))))
set_option maxHeartbeats 8000000 in
set_option maxRecDepth 100000 in
theorem lex_inner.calls (a0 : Int) (r : Bool) (w : World) (h : lex_inner.f a0 = some r) :
  Calls Try.prog 83 #[.int .u8 a0] w fun e w' => e = .returned (.bool r) ∧ Drawn0 w w' := by
 have H : ((lex_letter.f a0).bind fun t101 => (if t101 = true then (some true) else (if a0 ≥ 48 then (if a0 ≤ 57 then (some true) else (some (a0 == 95))) else (some (a0 == 95))))) = some r := h
 clear h
 replace H := Option.bind_eq_some_iff.mp H
 obtain ⟨t101, A20, H⟩ := H
 replace H : (if t101 = true then (some true) else (if a0 ≥ 48 then (if a0 ≤ 57 then (some true) else (some (a0 == 95))) else (some (a0 == 95)))) = some r := H
 have A2 := Aside0.mk A20
 clear A20
 by_cases c3 : t101 = true
 ·subst c3
  have H1 : (some true) = some r := by rw [if_pos rfl] at H; exact H
  clear H
  have H := H1
  clear H1
  obtain rfl := Option.some.inj H
  go_enter Try.func83, Try.ntmps83
  go_wp2_with (first | ((with_reducible refine gate_callee (f := 81) rfl ?_); refine goesL_ (some 4) rfl rfl Try.func81 (by kernel_rfl) rfl #[.int .u8 a0] rfl (by (try simp only [List.map_toArray, List.map_cons, List.map_nil]); first | done | rfl | (simp only [List.length_drop, List.length_take]; rfl)) ?_; (with_reducible refine (lex_letter.calls a0 true _ A2.out).mono ?_); rintro e w' ⟨rfl, ⟨nd, rfl⟩⟩; refine ⟨_, rfl, ?_⟩))
  go_ret
  exact ⟨by first | rfl | (simp; done) | (simp [*]; done), by repeat (first | exact Drawn0.refl _ | apply Drawn0.step)⟩
 ·replace c3 := Bool.eq_false_iff.mpr c3
  subst c3
  have H1 : (if a0 ≥ 48 then (if a0 ≤ 57 then (some true) else (some (a0 == 95))) else (some (a0 == 95))) = some r := by rw [if_neg (show ¬ (false = true) by decide)] at H; exact H
  clear H
  have H := H1
  clear H1
  by_cases c4 : a0 ≥ 48
  ·rw [if_pos c4] at H
   have c4b0 : decide (48 ≤ a0) = true := decide_eq_true c4
   clear c4
   by_cases c5 : a0 ≤ 57
   ·rw [if_pos c5] at H
    have c5b0 : decide (a0 ≤ 57) = true := decide_eq_true c5
    clear c5
    obtain rfl := Option.some.inj H
    go_enter Try.func83, Try.ntmps83
    go_wp2_with (first | ((with_reducible refine gate_callee (f := 81) rfl ?_); refine goesL_ (some 4) rfl rfl Try.func81 (by kernel_rfl) rfl #[.int .u8 a0] rfl (by (try simp only [List.map_toArray, List.map_cons, List.map_nil]); first | done | rfl | (simp only [List.length_drop, List.length_take]; rfl)) ?_; (with_reducible refine (lex_letter.calls a0 false _ A2.out).mono ?_); rintro e w' ⟨rfl, ⟨nd, rfl⟩⟩; refine ⟨_, rfl, ?_⟩))
    go_ret
    exact ⟨by first | rfl | (simp; done) | (simp [*]; done), by repeat (first | exact Drawn0.refl _ | apply Drawn0.step)⟩
   ·rw [if_neg c5] at H
    have c5b0 : decide (a0 ≤ 57) = false := decide_eq_false c5
    clear c5
    obtain rfl := Option.some.inj H
    go_enter Try.func83, Try.ntmps83
    go_wp2_with (first | ((with_reducible refine gate_callee (f := 81) rfl ?_); refine goesL_ (some 4) rfl rfl Try.func81 (by kernel_rfl) rfl #[.int .u8 a0] rfl (by (try simp only [List.map_toArray, List.map_cons, List.map_nil]); first | done | rfl | (simp only [List.length_drop, List.length_take]; rfl)) ?_; (with_reducible refine (lex_letter.calls a0 false _ A2.out).mono ?_); rintro e w' ⟨rfl, ⟨nd, rfl⟩⟩; refine ⟨_, rfl, ?_⟩))
    go_ret
    exact ⟨by first | rfl | (simp; done) | (simp [*]; done), by repeat (first | exact Drawn0.refl _ | apply Drawn0.step)⟩
  ·rw [if_neg c4] at H
   have c4b0 : decide (48 ≤ a0) = false := decide_eq_false c4
   clear c4
   obtain rfl := Option.some.inj H
   go_enter Try.func83, Try.ntmps83
   go_wp2_with (first | ((with_reducible refine gate_callee (f := 81) rfl ?_); refine goesL_ (some 4) rfl rfl Try.func81 (by kernel_rfl) rfl #[.int .u8 a0] rfl (by (try simp only [List.map_toArray, List.map_cons, List.map_nil]); first | done | rfl | (simp only [List.length_drop, List.length_take]; rfl)) ?_; (with_reducible refine (lex_letter.calls a0 false _ A2.out).mono ?_); rintro e w' ⟨rfl, ⟨nd, rfl⟩⟩; refine ⟨_, rfl, ?_⟩))
   go_ret
   exact ⟨by first | rfl | (simp; done) | (simp [*]; done), by repeat (first | exact Drawn0.refl _ | apply Drawn0.step)⟩
end Go.Proofs.Ytfjfbapiheehaaa.P
end
section
namespace Go.Proofs.Ytfjfbapiheehaaa.P
open Go.RowKit Go.Proofs.YtfjfbapiheehaaaW.PrintWords Go.Proofs.YtfjfbapiheehaaaW.PrintLast Go.Proofs.YtfjfbapiheehaaaW.PrintMore
attribute [local go_sem] max2_int min2_int max_two min_two max_three min_three max_four min_four   -- for this text's walks alone
set_option linter.unusedVariables false
set_option linter.unusedSimpArgs false
def lex_inside.f (a0 : Int) : Option (Bool) := if a0 ≥ 32 then (if a0 ≤ 126 then (some (a0 != 39)) else (some false)) else (some false)
set_option maxHeartbeats 8000000 in
set_option maxRecDepth 100000 in
theorem lex_inside.calls (a0 : Int) (r : Bool) (w : World) (h : lex_inside.f a0 = some r) :
  Calls Try.prog 84 #[.int .u8 a0] w fun e w' => e = .returned (.bool r) ∧ Drawn0 w w' := by
 have H : (if a0 ≥ 32 then (if a0 ≤ 126 then (some (a0 != 39)) else (some false)) else (some false)) = some r := h
 clear h
 by_cases c2 : a0 ≥ 32
 ·rw [if_pos c2] at H
  have c2b0 : decide (32 ≤ a0) = true := decide_eq_true c2
  clear c2
  by_cases c3 : a0 ≤ 126
  ·rw [if_pos c3] at H
   have c3b0 : decide (a0 ≤ 126) = true := decide_eq_true c3
   clear c3
   obtain rfl := Option.some.inj H
   go_enter Try.func84, Try.ntmps84
   go_wp2
   go_ret
   exact ⟨by first | rfl | (simp; done) | (simp [*]; done), by repeat (first | exact Drawn0.refl _ | apply Drawn0.step)⟩
  ·rw [if_neg c3] at H
   have c3b0 : decide (a0 ≤ 126) = false := decide_eq_false c3
   clear c3
   obtain rfl := Option.some.inj H
   go_enter Try.func84, Try.ntmps84
   go_wp2
   go_ret
   exact ⟨by first | rfl | (simp; done) | (simp [*]; done), by repeat (first | exact Drawn0.refl _ | apply Drawn0.step)⟩
 ·rw [if_neg c2] at H
  have c2b0 : decide (32 ≤ a0) = false := decide_eq_false c2
  clear c2
  obtain rfl := Option.some.inj H
  go_enter Try.func84, Try.ntmps84
  go_wp2
  go_ret
  exact ⟨by first | rfl | (simp; done) | (simp [*]; done), by repeat (first | exact Drawn0.refl _ | apply Drawn0.step)⟩
end Go.Proofs.Ytfjfbapiheehaaa.P
end
section
set_option linter.unusedVariables false
set_option linter.unusedSimpArgs false
namespace Go.Proofs.Ytfjfbapiheehaaa.LexSpec
open Go.Proofs.YtfjfbapiheehaaaW.PrintWords
def letter (c : Int) : Bool := (decide (97 ≤ c) && decide (c ≤ 122)) || (decide (65 ≤ c) && decide (c ≤ 90))
def inner (c : Int) : Bool := letter c || ((decide (48 ≤ c) && decide (c ≤ 57)) || c == 95)
def inside (c : Int) : Bool := decide (32 ≤ c) && (decide (c ≤ 126) && c != 39)
def noNl (c : Int) : Bool := c != 10
def run (p : Int → Bool) : List Int → Nat
 | [] => 0
 | c :: cs => if p c then run p cs + 1 else 0
theorem run_le (p : Int → Bool) (l : List Int) : run p l ≤ l.length := by
 induction l with
 | nil => simp [run]
 | cons c cs ih => simp only [run]; split <;> simp <;> omega
theorem run_eq (p : Int → Bool) (l : List Int) (n : Nat) (h : ∀ j, j < n → p (l.getD j 0) = true) (hn : n ≤ l.length) (he : n < l.length → p (l.getD n 0) = false) : run p l = n := by
 induction l generalizing n with
 | nil => simp at hn; subst hn; rfl
 | cons c cs ih =>
  cases n with
  | zero => have := he (by simp); simp at this; simp [run, this]
  | succ n =>
   have h0 := h 0 (by omega)
   simp at h0
   have := ih n (fun j hj => by have := h (j + 1) (by omega); simpa using this) (by simpa using hn) (fun hl => by have := he (by simpa using hl); simpa using this)
   simp [run, h0, this]
def isName (l : List Int) : Bool := decide (1 ≤ l.length) && decide (l.length ≤ 16) && letter (l.getD 0 0) && (run inner l == l.length)
def isTerm (l : List Int) : Bool := decide (1 ≤ l.length) && decide (l.length ≤ 16) && (run inside l == l.length)
def skip : Bool → List Int → Nat
 | _, [] => 0
 | false, c :: cs => if c == 32 || (c == 9 || c == 10) then skip false cs + 1 else if c == 35 then skip true cs + 1 else 0
 | true, c :: cs => if c == 10 then skip false cs + 1 else skip true cs + 1
theorem skip_le (b : Bool) (l : List Int) : skip b l ≤ l.length := by
 induction l generalizing b with
 | nil => cases b <;> simp [skip]
 | cons c cs ih =>
  have h1 := ih true
  have h2 := ih false
  cases b <;> simp only [skip] <;> (repeat' split) <;> simp <;> omega
theorem skip_note (l : List Int) : skip true l = run noNl l + skip false (l.drop (run noNl l)) := by
 induction l with
 | nil => simp [skip, run]
 | cons c cs ih =>
  by_cases h : c = 10
  ·subst h; simp [skip, run, noNl]
  ·have : noNl c = true := by simp [noNl, h]
   simp only [skip, run, this, if_true]
   rw [if_neg (by simpa using h), ih, List.drop_succ_cons]
   omega
def sign (c : Int) : Int := if c == 61 then 3 else if c == 124 then 4 else if c == 59 then 5 else 0
def token : List Int → Option (Int × Nat × Nat × Nat)
 | [] => none
 | c :: cs =>
  if letter c then (if isName ((c :: cs).take (run inner (c :: cs))) then some (1, 0, run inner (c :: cs), run inner (c :: cs)) else none)
  else if c == 39 then (if isTerm (cs.take (run inside cs)) && (decide (run inside cs < cs.length) && cs.getD (run inside cs) 0 == 39) then some (2, 1, run inside cs + 1, run inside cs + 2) else none)
  else if sign c != 0 then some (sign c, 0, 1, 1) else none
theorem skip_hash (cs : List Int) : skip false (35 :: cs) = run noNl (35 :: cs) + skip false ((35 :: cs).drop (run noNl (35 :: cs))) := by
 have h : noNl 35 = true := rfl
 have e : skip false (35 :: cs) = skip true cs + 1 := rfl
 rw [e, skip_note]
 simp only [run, h, if_true, List.drop_succ_cons]
 omega
def toks (s : ByteArray) : Nat → Nat → Except Nat (List (Int × ByteArray × Int))
 | 0, _ => .ok []
 | k + 1, i =>
  if i < s.size then
   match token ((bytesOf s).drop i) with
   | none => .error i
   | some (kd, a, b, n) =>
    match toks s k (i + n + skip false ((bytesOf s).drop (i + n))) with
    | .ok l => .ok ((kd, s.extract (i + a) (i + b), (i : Int)) :: l)
    | .error e => .error e
  else .ok []
def tokens (s : ByteArray) : Except Nat (List (Int × ByteArray × Int)) := toks s (s.size + 1) (skip false (bytesOf s))
def joined (acc : List (Int × ByteArray × Int)) : Except Nat (List (Int × ByteArray × Int)) → Except Nat (List (Int × ByteArray × Int))
 | .ok l => .ok (acc ++ l)
 | .error e => .error e
theorem token_some (l : List Int) (kd : Int) (a b n : Nat) (h : token l = some (kd, a, b, n)) : 1 ≤ n ∧ n ≤ l.length ∧ a ≤ b ∧ b ≤ n := by
 cases l with
 | nil => cases h
 | cons c cs =>
  have h1 := run_le inner (c :: cs)
  have h2 := run_le inside cs
  simp only [token] at h
  split at h
  ·rename_i hl
   split at h
   ·simp only [Option.some.injEq, Prod.mk.injEq] at h
    obtain ⟨rfl, rfl, rfl, rfl⟩ := h
    have : inner c = true := by simp [inner, hl]
    have : 1 ≤ run inner (c :: cs) := by simp [run, this]
    omega
   ·cases h
  ·split at h
   ·split at h
    ·rename_i hc
     simp only [Option.some.injEq, Prod.mk.injEq] at h
     obtain ⟨rfl, rfl, rfl, rfl⟩ := h
     simp only [Bool.and_eq_true, decide_eq_true_eq] at hc
     simp only [List.length_cons]
     omega
    ·cases h
   ·split at h
    ·simp only [Option.some.injEq, Prod.mk.injEq] at h
     obtain ⟨rfl, rfl, rfl, rfl⟩ := h
     simp
    ·cases h
theorem joined_step (s : ByteArray) (k i : Nat) (acc : List (Int × ByteArray × Int)) (kd : Int) (a b n : Nat) (hi : i < s.size) (h : token ((bytesOf s).drop i) = some (kd, a, b, n)) :
  joined acc (toks s (k + 1) i) = joined (acc ++ [(kd, s.extract (i + a) (i + b), (i : Int))]) (toks s k (i + n + skip false ((bytesOf s).drop (i + n)))) := by
 simp only [toks, if_pos hi, h]
 cases toks s k (i + n + skip false ((bytesOf s).drop (i + n))) <;> simp [joined]
end Go.Proofs.Ytfjfbapiheehaaa.LexSpec
end
