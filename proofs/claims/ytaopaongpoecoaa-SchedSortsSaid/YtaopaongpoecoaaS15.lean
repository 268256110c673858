/- sched: SchedSorts is true. -/
import Derived.Test.YtaopaongpoecoaaS14
import Derived.Test.YtaopaongpoecoaaAb34
set_option linter.unusedVariables false
namespace Go.Proofs.Ytaopaongpoecoaa
open Go.RowKit
theorem schedSorts_true (dv : List DV) (h : ConfL [(false, [.sl [.int .i64]])] dv) {K : DV → Objs → Prop} (hK : ∀ T', K (.bool true) T') : CallK PG 4 dv [] K := by
  obtain ⟨a0, r, rfl, h0, h⟩ := h.cons
  obtain rfl := h.nil
  obtain ⟨l, rfl, hl⟩ := confA_ints h0
  exact sorts_K (.inl rfl) fun T' _ => hK T'
end Go.Proofs.Ytaopaongpoecoaa
