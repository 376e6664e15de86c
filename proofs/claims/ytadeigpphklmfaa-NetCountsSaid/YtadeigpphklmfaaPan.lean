/- Results that live in variables; an operation that panics. -/
import Derived.Test.YtadeigpphklmfaaDrw
import Derived.Test.YtadeigpphklmfaaDat
set_option linter.unusedVariables false
set_option linter.unusedSimpArgs false
namespace Go.Eng
open Go.RowKit
section
variable {P : Program} {n : Nat} {ρ : Env} {w : World} {o : Oper} {ops : Array Oper} {Q : Exit → Act → World → Prop} {rest : List Oper}
theorem c_doneC {fn : Func} {R : Ending → World → Prop} {a t : Nat} {ad : Addr} {v : Value} (hr : fn.results = #[.cell a t]) (ha : ev n ρ (.tmp a) = .pointer (some ad)) (hl : LoadsAs P w t ad v) (h : R (.returned v) w) : bodyPost P fn R .ret (act n ρ) w := by
  refine ⟨rfl, v, ?_, h⟩
  have he : (act n ρ).tmps[a]?.getD undef = .pointer (some ad) := by
    have := (act_eval n ρ (.tmp a)).trans ha
    simpa [Act.eval] using this
  unfold LoadsAs at hl
  simp [results, hr, he, asAddr, hl]
theorem c_doneC2 {fn : Func} {R : Ending → World → Prop} {a t u : Nat} {ad : Addr} {v x : Value} (hr : fn.results = #[.cell a t, .tmp u]) (ha : ev n ρ (.tmp a) = .pointer (some ad)) (hx : ev n ρ (.tmp u) = x) (hl : LoadsAs P w t ad v) (h : R (.returned (.tuple #[v, x])) w) : bodyPost P fn R .ret (act n ρ) w := by
  refine ⟨rfl, .tuple #[v, x], ?_, h⟩
  have he : (act n ρ).tmps[a]?.getD undef = .pointer (some ad) := by
    have := (act_eval n ρ (.tmp a)).trans ha
    simpa [Act.eval] using this
  have he' : (act n ρ).tmps[u]?.getD undef = x := by
    have := (act_eval n ρ (.tmp u)).trans hx
    simpa [Act.eval] using this
  unfold LoadsAs at hl
  simp [results, hr, he, he', asAddr, hl]
theorem p_panic {w' : World} {v : Value} (hw : wanted n ops ρ o = true) (h : (execOp (ev n ρ) o).run P w = .halt (.panic v) w') (hQ : Q (.panic [{ v := v, recovered := false }]) (act n ρ) w') : WL P ops Q (o :: rest) (act n ρ) w := by
  refine ⟨?_⟩
  unfold wpList
  rw [wanted_eq, hw, if_pos rfl]
  refine .inl ?_
  unfold Oper.wp
  rw [act_eval', h]
  exact hQ
theorem t_panic {K : Act → World → Prop} {a : Act} {c : List PanicEntry} (h : Q (.panic c) a w) : Exit.then K Q (.panic c) a w := h
theorem c_panicked {fn : Func} {R : Ending → World → Prop} {c : List PanicEntry} (h : R (.panicked c) w) : bodyPost P fn R (.panic c) (act n ρ) w := ⟨rfl, h⟩
end
end Go.Eng
