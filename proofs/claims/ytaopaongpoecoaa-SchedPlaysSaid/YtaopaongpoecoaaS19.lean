/- sched: SchedPlays is true. -/
import Derived.Test.YtaopaongpoecoaaS18
import Derived.Test.YtaopaongpoecoaaAb34
set_option linter.unusedVariables false
namespace Go.Proofs.Ytaopaongpoecoaa
open Go.RowKit
theorem schedPlays_true (dv : List DV) (h : ConfL [(false, [.sl [.int .u8, .int .i64, .int .i64]])] dv) {K : DV → Objs → Prop} (hK : ∀ T', K (.bool true) T') : CallK PG 3 dv [] K := by
  obtain ⟨a0, r, rfl, h0, h⟩ := h.cons
  obtain rfl := h.nil
  obtain ⟨rows, rfl, hr⟩ := confA_rows h0
  obtain ⟨l, rfl, hl⟩ := rows_map (f := fun x : Int × Int × Int => [.int .u8 x.1, .int .i64 x.2.1, .int .i64 x.2.2]) (P := fun x => 0 ≤ x.1 ∧ x.1 ≤ 255 ∧ (-9223372036854775808 ≤ x.2.2 ∧ x.2.2 ≤ 9223372036854775807)) fun r h => by
    obtain ⟨h1, h2⟩ := hr r h
    match r, h1 with
    | [a, b, c], _ =>
      obtain ⟨x, rfl, hx⟩ := conf_int (h2 0 _ _ rfl rfl)
      obtain ⟨y, rfl, hy⟩ := conf_int (h2 1 _ _ rfl rfl)
      obtain ⟨z, rfl, hz⟩ := conf_int (h2 2 _ _ rfl rfl)
      exact ⟨(x, y, z), rfl, hx.1, hx.2, hz⟩
  exact plays_K hl fun T' _ => hK T'
end Go.Proofs.Ytaopaongpoecoaa
