/- Maps from ints to ints of our own, told by what each key reads as. -/
import Derived.Test.YtadeigpphklmfaaRw
import Derived.Maps.Own
import Derived.Maps.OwnSet
import Derived.Maps.Views
set_option linter.unusedVariables false
set_option linter.unusedSimpArgs false
namespace Go.Eng
open Go.RowKit
section
variable {P : Program} {n : Nat} {ρ : Env} {w : World} {o : Oper} {ops : Array Oper} {Q : Exit → Act → World → Prop} {rest : List Oper} {d : Nat}
def wfI (a : Int) : Prop := (Lit.int .i64 a).wf = true
/-- Block b is a map of at most m entries; the key a reads as f a. -/
structure MapI (P : Program) (w : World) (k e b m : Nat) (f : Int → Int) : Prop where
  out : ∃ D : DataW Unit, w.ownsMap P k (plainElem P e) b m D ∧ ∀ a, wfI a → D.atKey (.int .i64 a) (.lit (.int .i64 0)) = .lit (.int .i64 (f a))
def mapT (P : Program) (t k e : Nat) : Bool := (match P.underlying t with | some (.map k' e') => k' == k && e' == e | _ => false) && (match P.underlying k with | some (.int .i64) => true | _ => false) && (match P.underlying e with | some (.int .i64) => true | _ => false) && (match (P.info? e).bind (·.zero) with | some (.int .i64 0) => true | _ => false)
theorem mapT_spec {t k e : Nat} (h : mapT P t k e = true) : P.underlying t = some (.map k e) ∧ P.underlying k = some (.int .i64) ∧ P.underlying e = some (.int .i64) ∧ (P.info? e).bind (·.zero) = some (.int .i64 0) := by
  simp only [mapT, Bool.and_eq_true] at h
  obtain ⟨⟨⟨h1, h2⟩, h3⟩, h4⟩ := h
  refine ⟨?_, ?_, ?_, ?_⟩
  · split at h1
    · rename_i k' e' hu; simp only [Bool.and_eq_true, beq_iff_eq] at h1; rw [hu, h1.1, h1.2]
    · cases h1
  · split at h2 <;> simp_all
  · split at h3 <;> simp_all
  · split at h4 <;> simp_all
theorem x_lookupI {t k e b m : Nat} {x y : Operand} {a : Int} {f : Int → Int} (hT : mapT P t k e = true) (ho : o.op = .lookup t x y false) (hx : ev n ρ x = .map (some b)) (hy : ev n ρ y = .int .i64 a) (ha : wfI a) (h : MapI P w k e b m f) : Yields P o n ρ w (.int .i64 (f a)) := by
  obtain ⟨ht, hk, he, hz⟩ := mapT_spec hT
  obtain ⟨D, hD, hf⟩ := h.out
  obtain ⟨c, hr, hc, _⟩ := hD.lookup_int (Maps.int_keyed hk) ht he (run_zero hz w) (Maps.keyOf_int_mk hk ha)
  rw [hf a ha] at hc
  have e1 : f a = c := by injection hc with hc; injection hc
  simp only [Yields, execOp, ho, hx, hy, Sem.run_bind, hr, Result.andThen_ok, Sem.run_pure, e1]
theorem p_mapUpdateI {t k e b m : Nat} {x y z : Operand} {a v : Int} {f : Int → Int} (hT : mapT P t k e = true) (hw : wanted n ops ρ o = true) (hd : o.dst = none) (ho : o.op = .mapUpdate t x y z) (hx : ev n ρ x = .map (some b)) (hy : ev n ρ y = .int .i64 a) (hz : ev n ρ z = .int .i64 v) (ha : wfI a) (hv : wfI v) (hm : m < 1000000) (h : MapI P w k e b m f)
    (hk : ∀ w', MapI P w' k e b (m + 1) (fun q => if q = a then v else f q) → w.grownBy w' (some b) → WL P ops Q rest (act n ρ) w') : WL P ops Q (o :: rest) (act n ρ) w := by
  obtain ⟨ht, hkk, he, hzz⟩ := mapT_spec hT
  obtain ⟨D, hD, hf⟩ := h.out
  obtain ⟨w', hr, hD', hg⟩ := hD.update (Maps.int_keyed hkk) ht (by unfold maxLen; omega) (Maps.keyOf_int_mk hkk ha) (plainElem_int he hv)
  refine ⟨?_⟩
  unfold wpList
  rw [wanted_eq, hw, if_pos rfl]
  refine .inl ?_
  unfold Oper.wp
  have hrun : (execOp (ev n ρ) o).run P w = .ok .skip w' := by
    simp only [execOp, ho, hx, hy, hz, Sem.run_bind, hr, Result.andThen_ok, Sem.run_pure]
  rw [act_eval', hrun, Oper.upon_skip, hd]
  refine (hk w' ⟨_, hD', fun q hq => ?_⟩ hg).out
  by_cases e1 : q = a
  · subst e1
    rw [if_pos rfl]
    exact Maps.atKey_put_same hD.isMap (by simp [WideAt.IsKeyLit]) _ _
  · rw [if_neg e1, Maps.atKey_put_other (fun e2 => e1 (by injection e2))]
    exact hf q hq
theorem p_makeMapI {t k e : Nat} (hw : wanted n ops ρ o = true) (hd : o.dst = some d) (ho : o.op = .makeMap t none)
    (hk : ∀ w', MapI P w' k e w.heap.size 0 (fun _ => 0) → Ext w w' → w'.heap.size = w.heap.size + 1 → WL P ops Q rest (act n (up ρ d (.map (some w.heap.size)))) w') : WL P ops Q (o :: rest) (act n ρ) w := by
  refine p_run hw hd (v := .map (some w.heap.size)) (w' := w.alloc (.map #[] 0)) ?_ (hk _ ⟨_, World.ownsMap_made w P k _, fun a _ => by first | rfl | simp [DataW.atKey]⟩ ((Ext.refl w).alloc _) (by simp))
  simp [execOp, ho, Instr.makeMap, newObj, Sem.run, World.alloc_eq]
theorem MapI.kept {w w' : World} {k e b m B e' : Nat} {f : Int → Int} (h : MapI P w k e b m f) (hk : Kept B e' w w') : MapI P w' k e b m f := by
  obtain ⟨D, ⟨es, cl, hb, r⟩, hf⟩ := h.out
  exact ⟨D, ⟨es, cl, hk.maps b es cl hb, r⟩, hf⟩
theorem MapI.ext {w w' : World} {k e b m : Nat} {f : Int → Int} (h : MapI P w k e b m f) (hx : Ext w w') : MapI P w' k e b m f := by
  obtain ⟨D, ⟨es, cl, hb, r⟩, hf⟩ := h.out
  exact ⟨D, ⟨es, cl, (hx.block b (Array.getElem?_eq_some_iff.1 hb).1).trans hb, r⟩, hf⟩
theorem MapI.congr {w : World} {k e b m m' : Nat} {f f' : Int → Int} (h : MapI P w k e b m f) (hf : ∀ q, f q = f' q) (hm : m ≤ m') : MapI P w k e b m' f' := by
  obtain ⟨D, hD, h2⟩ := h.out
  exact ⟨D, hD.mono hm, fun a ha => by rw [← hf a]; exact h2 a ha⟩
/-- a map update leaves all below B, and every row -/
theorem below_map {w w' : World} {B b : Nat} (hg : w.grownBy w' (some b)) (hb : B ≤ b) (hB : B ≤ w.heap.size) : Below B w w' := Below.grown (Below.refl B w) hg hB (fun j hj => by injection hj with hj; omega)
theorem Box.map {w w' : World} {k e b m g T : Nat} {f : Int → Int} {cs : List Value} (h : Box w g T cs) (hM : MapI P w k e b m f) (hg : w.grownBy w' (some b)) : Box w' g T cs := by
  obtain ⟨D, ⟨es, cl, hb, _⟩, _⟩ := hM.out
  refine h.grown hg (fun e1 => ?_)
  injection e1 with e1
  subst e1
  unfold Box at h
  rw [hb] at h
  cases h
theorem own_map {w w' : World} {k e b m B q size : Nat} {f : Int → Int} {v : Value} {c : Nat} {cs : List Value} (h : w.ownsRow B q size v c cs) (hM : MapI P w k e b m f) (hg : w.grownBy w' (some b)) : w'.ownsRow B q size v c cs := by
  obtain ⟨D, ⟨es, cl, hb, _⟩, _⟩ := hM.out
  refine ⟨h.1, ?_⟩
  rcases h.2 with h2 | ⟨g, cap, cur, hv, hB, hh, r⟩
  · exact .inl h2
  · refine .inr ⟨g, cap, cur, hv, hB, (hg.block g (Array.getElem?_eq_some_iff.1 hh).1 (fun e1 => ?_)).trans hh, r⟩
    injection e1 with e1
    subst e1
    rw [hb] at hh
    cases hh
end
end Go.Eng
