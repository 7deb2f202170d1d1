/- The value layer, 40: arrays as values: put together, compared. -/
import Derived.Test.YtdkgbkmaeeicoaaVC
import Derived.ChangeKeysEq
set_option linter.unusedVariables false
set_option linter.unusedSimpArgs false
namespace Go.Proofs.Ytdkgbkmaeeicoaa.V
open Go Go.RowKit
section
variable {P : Program} {n : Nat} {cx : Cx} {st : St} {o : Oper}
/-- An array that is put together. -/
theorem VPure.buildA {t e : TypeId} {len : Nat} {s b s' b' : Nat} {z z' : Value} {d' : TypeDesc} {parts : Array (Nat × Operand)} {qs : List (Nat × V)} {cs : List V} (ho : o.op = .build t parts) [ht : TI P t (.array len e) s b z] [he : TI P e d' s' b' z'] (hz : z.cells.all Value.oneCell' = true)
    (hq : evParts st.s parts.toList = some qs) (hf : fillV (fun i => some (i * s', s')) (z.cells.toList.map .val) qs = some cs) : VPure P n cx o st (.agg cs) := fun g a w r => by
  obtain ⟨ms, h1, h2⟩ := fill_rep (parts_rep r hq) (relA_zero hz) hf
  refine ⟨.agg ms, .agg cs ms h2.1 h2.2.2, fun w' => ?_⟩
  obtain ⟨i, hi, _, _, hiz⟩ := ht.info
  obtain ⟨i', hi', hs', _, _⟩ := he.info
  have hb : P.built t (parts.map fun (i, x) => (i, a.eval x)).toList = some ms := by
    unfold Program.built
    rw [hi, ht.und]
    simp only [hiz, hi', hs']
    have : (parts.map fun (i, x) => (i, a.eval x)).toList = parts.toList.map fun p => (p.1, a.eval p.2) := by simp
    rw [this]
    exact h1
  unfold execOp; rw [ho]
  have hr := run_build (P := P) w' t (parts.map fun (i, x) => (i, a.eval x)) ms hb
  simp only [Sem.run_bind, hr]
  rfl
theorem VPure.eq2 {t t' e : TypeId} {x y : Operand} {k : IntKind} {a0 a1 b0 b1 : Int} {s b b' : Nat} {z z' : Value} (ho : o.op = .binOp .eql t x y t') (hx : ev st.s x = some (.agg [.val (.int k a0), .val (.int k a1)])) (hy : ev st.s y = some (.agg [.val (.int k b0), .val (.int k b1)])) [ht : TI P t (.array 2 e) s b z] [he : TI P e (.int k) 1 b' z'] (hg : P.eqGuardType P.depth t = false) :
    VPure P n cx o st (.val (.bool (decide (a0 = b0) && decide (a1 = b1)))) := fun g a w r => by
  have hv := ev_rep r hx
  have hv' := ev_rep r hy
  obtain ⟨i, hi, hs, _, _⟩ := he.info
  have hc : P.cellsOf e = 1 := by unfold Program.cellsOf; rw [hi]; exact hs
  generalize he1 : a.eval x = m at hv
  generalize he2 : a.eval y = m' at hv'
  cases hv with
  | agg _ ms e1 e2 =>
    cases hv' with
    | agg _ ns f1 f2 =>
      have get : ∀ {ms : Array Value} {c0 c1 : Int} (e1 : ms.size = 2) (e2 : ∀ (i : Nat) (c : V) (m : Value), [V.val (.int k c0), .val (.int k c1)][i]? = some c → ms[i]? = some m → VRep (Rd cx.z st.h g w) (gvOf st.h g) st.x c m), ms[0]? = some (.int k c0) ∧ ms[1]? = some (.int k c1) := by
        intro ms c0 c1 e1 e2
        have h0 : ms[0]? = some ms[0] := Array.getElem?_eq_getElem (by omega)
        have h1 : ms[1]? = some ms[1] := Array.getElem?_eq_getElem (by omega)
        exact ⟨h0.trans (congrArg some (e2 0 _ _ rfl h0).val_inv), h1.trans (congrArg some (e2 1 _ _ rfl h1).val_inv)⟩
      obtain ⟨p0, p1⟩ := get e1 e2
      obtain ⟨q0, q1⟩ := get f1 f2
      have hw : ∀ w' : World, (Op.equalIn 10000 t (.agg ms) (.agg ns)).run P w' = .ok (decide (a0 = b0) && decide (a1 = b1)) w' := by
        intro w'
        have hu := he.und
        have hag : aggT (.int k) = false := rfl
        rw [show (10000 : Nat) = 9999 + 1 from rfl, run_equalIn_array w' 9999 ms ns ht.und hi, hc]
        show (Op.eqItems (9998 + 1) e 1 ms ns [0, 1]).run P w' = _
        simp only [Op.eqItems, Sem.run_bind, Nat.zero_mul, Nat.one_mul, run_part1 hu hag p0, run_part1 hu hag q0, run_part1 hu hag p1, run_part1 hu hag q1, Result.andThen_ok]
        rw [run_equalIn_int w' 9998 e k k a0 b0 hu]
        have key : ∀ c d : Int, (c == d) = decide (c = d) := fun c d => by rw [Bool.eq_iff_iff]; simp
        rw [key]
        cases hd : decide (a0 = b0) with
        | false => rfl
        | true =>
          simp only [Result.andThen_ok, Bool.not_true, Bool.false_eq_true, if_false, Sem.run_bind, run_part1 hu hag p1, run_part1 hu hag q1]
          rw [run_equalIn_int w' 9998 e k k a1 b1 hu, key]
          cases hd1 : decide (a1 = b1) <;> rfl
      refine ⟨.bool (decide (a0 = b0) && decide (a1 = b1)), .val _ rfl, fun w' => ?_⟩
      unfold execOp; rw [ho]; simp only [he1, he2]
      simp only [Sem.run_bind]
      rw [run_eqGuard_agg w' .eql t x y ms ns hg]
      simp only [Result.andThen_ok]
      rw [run_eql_struct, hw]
      rfl
end
end Go.Proofs.Ytdkgbkmaeeicoaa.V
