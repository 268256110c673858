/- The document's functions of chapter 3: 'Step', 'All', 'Form'. -/
import Derived.Test.YteemmpghpdaloaaDoorP9
set_option linter.unusedVariables false
set_option linter.unusedSimpArgs false
set_option maxRecDepth 10000
namespace Go.Proofs.YteemmpghpdaloaaDoor
open Go.RowKit

noncomputable def rc_rstep : RFn := ⟨2, 54, (.seq (.reg [⟨(some 4), (.mov (.c (.sl 0 [] .nil))), none, false⟩, ⟨(some 5), (.mov (.c (.sl 0 [] .nil))), none, false⟩] 0 [0, 1]) (.seq (.reg [⟨(some 6), (.mov (.c (.sl 0 [] .nil))), none, false⟩] 0 [0, 1, 6]) (.seq (.seq (.reg [⟨(some 10), (.mov (.t 0)), none, false⟩, ⟨(some 11), (.len (.t 10)), none, false⟩, ⟨(some 12), (.bin .gtr (.t 11) (.c (.int .i64 0))), none, false⟩, ⟨(some 13), (.mov (.t 12)), none, false⟩, ⟨(some 14), (.mov (.t 0)), (some (13, true)), false⟩, ⟨(some 15), (.call 20 [(.t 14)]), (some (13, true)), false⟩, ⟨(some 16), (.pick (.t 13) (.t 15) (.c (.bool false))), none, false⟩] 0 [0, 1, 6, 16]) (.cond (.t 16) (.seq (.reg [⟨(some 17), (.mov (.t 0)), none, false⟩, ⟨(some 18), (.append 1 1 (.c (.sl 0 [] .nil)) (.t 17)), none, false⟩, ⟨(some 19), (.mov (.t 1)), none, false⟩, ⟨(some 20), (.mkrow 1 [(.int .u8 0)] 1 [(0, (.t 19))]), none, false⟩, ⟨(some 21), (.append 1 1 (.t 18) (.t 20)), none, false⟩, ⟨(some 7), (.mov (.t 21)), none, true⟩] 0 [1, 6, 7]) (.seq (.seq (.reg [⟨(some 23), (.mov (.t 7)), none, false⟩, ⟨(some 24), (.call 37 [(.t 23)]), none, false⟩, ⟨(some 22), (.mov (.t 24)), none, false⟩, ⟨(some 25), (.ext (.t 22) 0), none, false⟩, ⟨(some 26), (.ext (.t 22) 1), none, false⟩, ⟨(some 8), (.mov (.t 25)), none, false⟩, ⟨(some 9), (.mov (.t 26)), none, false⟩] 0 [1, 6, 7, 8, 9]) (.seq (.reg [⟨(some 27), (.mov (.t 9)), none, false⟩] 0 [1, 6, 7, 8, 27]) (.cond (.t 27) (.seq (.reg [⟨(some 28), (.mov (.t 8)), none, false⟩, ⟨(some 29), (.mkrow 1 [(.int .i32 0)] 1 [(0, (.t 28))]), none, false⟩, ⟨(some 4), (.mov (.c (.sl 0 [] .nil))), none, false⟩, ⟨(some 5), (.mov (.t 29)), none, true⟩] 0 [4, 5]) .ret) .skip))) (.seq (.seq (.reg [⟨(some 30), (.mov (.t 7)), none, false⟩, ⟨(some 31), (.call 20 [(.t 30)]), none, false⟩] 0 [1, 6, 7, 31]) (.cond (.t 31) (.seq (.reg [⟨(some 32), (.mov (.t 7)), none, false⟩, ⟨(some 4), (.mov (.t 32)), none, false⟩, ⟨(some 5), (.mov (.c (.sl 0 [] .nil))), none, false⟩] 0 [4, 5]) .ret) .skip)) (.reg [⟨(some 33), (.mov (.t 6)), none, false⟩, ⟨(some 34), (.mkrow 1 [(.int .i32 0)] 1 [(0, (.c (.int .i32 65533)))]), none, false⟩, ⟨(some 35), (.append 1 4 (.t 33) (.t 34)), none, false⟩, ⟨(some 6), (.mov (.t 35)), none, false⟩] 0 [1, 6])))) .skip)) (.seq (.blk 0 (.seq (.reg [⟨(some 37), (.mov (.t 1)), none, false⟩, ⟨(some 38), (.bin .lss (.t 37) (.c (.int .u8 128))), none, false⟩, ⟨(some 36), (.mov (.t 38)), none, false⟩] 0 [1, 6, 36]) (.cond (.t 36) (.seq (.reg [⟨(some 39), (.mov (.t 6)), none, false⟩, ⟨(some 40), (.mov (.t 1)), none, false⟩, ⟨(some 41), (.conv (.i2i .i32) (.t 40)), none, false⟩, ⟨(some 42), (.mkrow 1 [(.int .i32 0)] 1 [(0, (.t 41))]), none, false⟩, ⟨(some 43), (.append 1 4 (.t 39) (.t 42)), none, false⟩, ⟨(some 4), (.mov (.c (.sl 0 [] .nil))), none, false⟩, ⟨(some 5), (.mov (.t 43)), none, true⟩] 0 [4, 5]) .ret) (.seq (.reg [⟨(some 45), (.mov (.t 1)), none, false⟩, ⟨(some 46), (.mkrow 1 [(.int .u8 0)] 1 [(0, (.t 45))]), none, true⟩, ⟨(some 47), (.call 20 [(.t 46)]), none, false⟩, ⟨(some 44), (.mov (.t 47)), none, false⟩] 0 [1, 6, 44]) (.cond (.t 44) (.seq (.reg [⟨(some 48), (.mov (.t 1)), none, false⟩, ⟨(some 49), (.mkrow 1 [(.int .u8 0)] 1 [(0, (.t 48))]), none, false⟩, ⟨(some 50), (.mov (.t 6)), none, false⟩, ⟨(some 4), (.mov (.t 49)), none, true⟩, ⟨(some 5), (.mov (.t 50)), none, true⟩] 0 [4, 5]) .ret) .skip))))) (.seq (.reg [⟨(some 51), (.mov (.t 6)), none, false⟩, ⟨(some 52), (.mkrow 1 [(.int .i32 0)] 1 [(0, (.c (.int .i32 65533)))]), none, false⟩, ⟨(some 53), (.append 1 4 (.t 51) (.t 52)), none, false⟩, ⟨(some 4), (.mov (.c (.sl 0 [] .nil))), none, false⟩, ⟨(some 5), (.mov (.t 53)), none, true⟩] 0 [4, 5]) .ret))))), [(.t 4), (.t 5)]⟩
theorem rc_rstep_ok : compFn PG.P [⟨0, 0, [0, 1], []⟩, ⟨1, 0, [0, 1, 6], []⟩, ⟨2, 0, [0, 1, 6, 16], []⟩, ⟨3, 0, [1, 6, 7], [7]⟩, ⟨4, 0, [1, 6, 7, 8, 9], []⟩, ⟨5, 0, [1, 6, 7, 8, 27], []⟩, ⟨6, 0, [4, 5], [5]⟩, ⟨7, 0, [1, 6, 7, 31], []⟩, ⟨8, 0, [4, 5], []⟩, ⟨9, 0, [1, 6], []⟩, ⟨10, 0, [1, 6, 36], []⟩, ⟨11, 0, [4, 5], [5]⟩, ⟨12, 0, [1, 6, 44], [46]⟩, ⟨13, 0, [4, 5], [4, 5]⟩, ⟨14, 0, [4, 5], [5]⟩] 18 = some rc_rstep := by kernel_rfl
noncomputable def rc_rall_l0 : RC := (.seq (.seq (.reg [⟨(some 9), (.mov (.t 6)), none, false⟩, ⟨(some 10), (.mov (.t 0)), none, false⟩, ⟨(some 11), (.len (.t 10)), none, false⟩, ⟨(some 12), (.bin .lss (.t 9) (.t 11)), none, false⟩] 0 [0, 4, 5, 6, 12]) (.cond (.t 12) .skip (.ext 0))) (.seq (.blk 1 (.seq (.reg [⟨(some 16), (.mov (.t 5)), none, false⟩, ⟨(some 17), (.mov (.t 0)), none, false⟩, ⟨(some 18), (.mov (.t 6)), none, false⟩, ⟨(some 19), (.iaddr 1 (.t 17) (.t 18)), none, false⟩, ⟨(some 20), (.load false 1 (.t 19)), none, false⟩, ⟨(some 21), (.call 18 [(.t 16), (.t 20)]), none, false⟩, ⟨(some 15), (.mov (.t 21)), none, false⟩, ⟨(some 22), (.ext (.t 15) 0), none, false⟩, ⟨(some 23), (.ext (.t 15) 1), none, false⟩, ⟨(some 7), (.mov (.t 22)), none, false⟩, ⟨(some 8), (.mov (.t 23)), none, false⟩] 0 [0, 4, 6, 7, 8]) (.reg [⟨(some 24), (.mov (.t 7)), none, false⟩, ⟨(some 25), (.mov (.t 4)), none, false⟩, ⟨(some 26), (.mov (.t 8)), none, false⟩, ⟨(some 27), (.append 1 4 (.t 25) (.t 26)), none, false⟩, ⟨(some 5), (.mov (.t 24)), none, false⟩, ⟨(some 4), (.mov (.t 27)), none, false⟩] 0 [0, 4, 5, 6]))) (.reg [⟨(some 13), (.mov (.t 6)), none, false⟩, ⟨(some 14), (.bin .add (.t 13) (.c (.int .i64 1))), none, false⟩, ⟨(some 6), (.mov (.t 14)), none, false⟩] 0 [0, 4, 5, 6])))
noncomputable def rc_rall : RFn := ⟨1, 30, (.seq (.reg [⟨(some 2), (.mov (.c (.sl 0 [] .nil))), none, false⟩, ⟨(some 3), (.mov (.c (.sl 0 [] .nil))), none, false⟩] 0 [0]) (.seq (.reg [⟨(some 4), (.mov (.c (.sl 0 [] .nil))), none, false⟩] 0 [0, 4]) (.seq (.reg [⟨(some 5), (.mov (.c (.sl 0 [] .nil))), none, false⟩] 0 [0, 4, 5]) (.seq (.seq (.reg [⟨(some 6), (.mov (.c (.int .i64 0))), none, false⟩] 0 [0, 4, 5, 6]) (.blk 0 (.loop rc_rall_l0))) (.seq (.reg [⟨(some 28), (.mov (.t 4)), none, false⟩, ⟨(some 29), (.mov (.t 5)), none, false⟩, ⟨(some 2), (.mov (.t 28)), none, true⟩, ⟨(some 3), (.mov (.t 29)), none, true⟩] 0 [2, 3]) .ret))))), [(.t 2), (.t 3)]⟩
theorem rc_rall_ok : compFn PG.P [⟨0, 0, [0], []⟩, ⟨1, 0, [0, 4], []⟩, ⟨2, 0, [0, 4, 5], []⟩, ⟨3, 0, [0, 4, 5, 6], []⟩, ⟨4, 0, [0, 4, 5, 6, 12], []⟩, ⟨5, 0, [0, 4, 5, 6], []⟩, ⟨6, 0, [0, 4, 6, 7, 8], []⟩, ⟨7, 0, [0, 4, 5, 6], []⟩, ⟨8, 0, [2, 3], [2, 3]⟩] 15 = some rc_rall := by kernel_rfl
noncomputable def rc_rform : RFn := ⟨1, 60, (.seq (.reg [⟨(some 2), (.mov (.c (.sl 0 [] .nil))), none, false⟩] 0 [0]) (.seq (.seq (.reg [⟨(some 3), (.mov (.t 0)), none, false⟩, ⟨(some 4), (.call 24 [(.t 3)]), none, false⟩, ⟨(some 5), (.un .not (.t 4)), none, false⟩] 0 [0, 5]) (.cond (.t 5) (.reg [⟨(some 0), (.mov (.c (.int .i32 65533))), none, false⟩] 0 [0]) .skip)) (.seq (.blk 0 (.seq (.reg [⟨(some 7), (.mov (.t 0)), none, false⟩, ⟨(some 8), (.bin .lss (.t 7) (.c (.int .i32 128))), none, false⟩, ⟨(some 6), (.mov (.t 8)), none, false⟩] 0 [0, 6]) (.cond (.t 6) (.seq (.reg [⟨(some 9), (.mov (.t 0)), none, false⟩, ⟨(some 10), (.conv (.i2i .u8) (.t 9)), none, false⟩, ⟨(some 11), (.mkrow 1 [(.int .u8 0)] 1 [(0, (.t 10))]), none, false⟩, ⟨(some 2), (.mov (.t 11)), none, false⟩] 0 [2]) .ret) (.seq (.reg [⟨(some 13), (.mov (.t 0)), none, false⟩, ⟨(some 14), (.bin .lss (.t 13) (.c (.int .i32 2048))), none, false⟩, ⟨(some 12), (.mov (.t 14)), none, false⟩] 0 [0, 12]) (.cond (.t 12) (.seq (.reg [⟨(some 15), (.mov (.t 0)), none, false⟩, ⟨(some 16), (.bin .shr (.t 15) (.c (.int .u64 6))), none, false⟩, ⟨(some 17), (.bin .or (.c (.int .i32 192)) (.t 16)), none, false⟩, ⟨(some 18), (.conv (.i2i .u8) (.t 17)), none, false⟩, ⟨(some 19), (.mov (.t 0)), none, false⟩, ⟨(some 20), (.bin .and (.t 19) (.c (.int .i32 63))), none, false⟩, ⟨(some 21), (.bin .or (.c (.int .i32 128)) (.t 20)), none, false⟩, ⟨(some 22), (.conv (.i2i .u8) (.t 21)), none, false⟩, ⟨(some 23), (.mkrow 1 [(.int .u8 0)] 2 [(0, (.t 18)), (1, (.t 22))]), none, false⟩, ⟨(some 2), (.mov (.t 23)), none, false⟩] 0 [2]) .ret) (.seq (.reg [⟨(some 25), (.mov (.t 0)), none, false⟩, ⟨(some 26), (.bin .lss (.t 25) (.c (.int .i32 65536))), none, false⟩, ⟨(some 24), (.mov (.t 26)), none, false⟩] 0 [0, 24]) (.cond (.t 24) (.seq (.reg [⟨(some 27), (.mov (.t 0)), none, false⟩, ⟨(some 28), (.bin .shr (.t 27) (.c (.int .u64 12))), none, false⟩, ⟨(some 29), (.bin .or (.c (.int .i32 224)) (.t 28)), none, false⟩, ⟨(some 30), (.conv (.i2i .u8) (.t 29)), none, false⟩, ⟨(some 31), (.mov (.t 0)), none, false⟩, ⟨(some 32), (.bin .shr (.t 31) (.c (.int .u64 6))), none, false⟩, ⟨(some 33), (.bin .and (.t 32) (.c (.int .i32 63))), none, false⟩, ⟨(some 34), (.bin .or (.c (.int .i32 128)) (.t 33)), none, false⟩, ⟨(some 35), (.conv (.i2i .u8) (.t 34)), none, false⟩, ⟨(some 36), (.mov (.t 0)), none, false⟩, ⟨(some 37), (.bin .and (.t 36) (.c (.int .i32 63))), none, false⟩, ⟨(some 38), (.bin .or (.c (.int .i32 128)) (.t 37)), none, false⟩, ⟨(some 39), (.conv (.i2i .u8) (.t 38)), none, false⟩, ⟨(some 40), (.mkrow 1 [(.int .u8 0)] 3 [(0, (.t 30)), (1, (.t 35)), (2, (.t 39))]), none, false⟩, ⟨(some 2), (.mov (.t 40)), none, false⟩] 0 [2]) .ret) .skip))))))) (.seq (.reg [⟨(some 41), (.mov (.t 0)), none, false⟩, ⟨(some 42), (.bin .shr (.t 41) (.c (.int .u64 18))), none, false⟩, ⟨(some 43), (.bin .or (.c (.int .i32 240)) (.t 42)), none, false⟩, ⟨(some 44), (.conv (.i2i .u8) (.t 43)), none, false⟩, ⟨(some 45), (.mov (.t 0)), none, false⟩, ⟨(some 46), (.bin .shr (.t 45) (.c (.int .u64 12))), none, false⟩, ⟨(some 47), (.bin .and (.t 46) (.c (.int .i32 63))), none, false⟩, ⟨(some 48), (.bin .or (.c (.int .i32 128)) (.t 47)), none, false⟩, ⟨(some 49), (.conv (.i2i .u8) (.t 48)), none, false⟩, ⟨(some 50), (.mov (.t 0)), none, false⟩, ⟨(some 51), (.bin .shr (.t 50) (.c (.int .u64 6))), none, false⟩, ⟨(some 52), (.bin .and (.t 51) (.c (.int .i32 63))), none, false⟩, ⟨(some 53), (.bin .or (.c (.int .i32 128)) (.t 52)), none, false⟩, ⟨(some 54), (.conv (.i2i .u8) (.t 53)), none, false⟩, ⟨(some 55), (.mov (.t 0)), none, false⟩, ⟨(some 56), (.bin .and (.t 55) (.c (.int .i32 63))), none, false⟩, ⟨(some 57), (.bin .or (.c (.int .i32 128)) (.t 56)), none, false⟩, ⟨(some 58), (.conv (.i2i .u8) (.t 57)), none, false⟩, ⟨(some 59), (.mkrow 1 [(.int .u8 0)] 4 [(0, (.t 44)), (1, (.t 49)), (2, (.t 54)), (3, (.t 58))]), none, false⟩, ⟨(some 2), (.mov (.t 59)), none, false⟩] 0 [2]) .ret)))), [(.t 2)]⟩
theorem rc_rform_ok : compFn PG.P [⟨0, 0, [0], []⟩, ⟨1, 0, [0, 5], []⟩, ⟨2, 0, [0], []⟩, ⟨3, 0, [0, 6], []⟩, ⟨4, 0, [2], []⟩, ⟨5, 0, [0, 12], []⟩, ⟨6, 0, [2], []⟩, ⟨7, 0, [0, 24], []⟩, ⟨8, 0, [2], []⟩, ⟨9, 0, [2], []⟩] 22 = some rc_rform := by kernel_rfl

def F_whole : List DV → Option FSpec
  | [a_l] => some ⟨isInts .u8 a_l ∧ 0 < (intsD a_l).length, fun n => (.tup [.int .i32 (wholeF (intsD a_l)).1, .bool (wholeF (intsD a_l)).2], [])⟩
  | _ => none
theorem F_whole_1 (a_l : DV) : F_whole [a_l] = some ⟨isInts .u8 a_l ∧ 0 < (intsD a_l).length, fun n => (.tup [.int .i32 (wholeF (intsD a_l)).1, .bool (wholeF (intsD a_l)).2], [])⟩ := nrfl _
theorem whole_ok (args : List DV) (s : FSpec) (hs : F_whole args = some s) (hp : s.pre) : PCalls PG 37 args fun n r os => r = (s.res n).1 ∧ os = (s.res n).2 := by
  unfold F_whole at hs
  split at hs
  · rename_i a_l
    obtain rfl := Option.some.inj hs
    obtain ⟨hi_l, hp⟩ := hp
    obtain ⟨s0_l, k0_l, h1_l, h2_l, h3_l⟩ := isInts_inv hi_l
    have this := whole_P (k_l := k0_l) h2_l h3_l hp
    rw [← h1_l] at this
    exact this
  · cases hs

def T11 : List (Nat × (List DV → Option FSpec)) := (37, F_whole) :: T10
theorem T11_ok : FOk PG (tab T11) := FOk.cons (T10_ok) whole_ok
theorem T11_at_whole (args : List DV) : tab T11 37 args = F_whole args := nrfl _
theorem T11_at_put (args : List DV) : tab T11 21 args = F_put args := nrfl _
theorem T11_at_uall (args : List DV) : tab T11 14 args = F_uall args := nrfl _
theorem T11_at_rbegins (args : List DV) : tab T11 20 args = F_rbegins args := nrfl _
theorem T11_at_appRune (args : List DV) : tab T11 39 args = F_appRune args := nrfl _
theorem T11_at_appNon (args : List DV) : tab T11 50 args = F_appNon args := nrfl _
theorem T11_at_step (args : List DV) : tab T11 17 args = F_step args := nrfl _
theorem T11_at_ubegins (args : List DV) : tab T11 19 args = F_ubegins args := nrfl _
theorem T11_at_decode (args : List DV) : tab T11 36 args = F_decode args := nrfl _
theorem T11_at_full (args : List DV) : tab T11 38 args = F_full args := nrfl _
theorem T11_at_clone (args : List DV) : tab T11 35 args = F_clone args := nrfl _
theorem T11_at_slow (args : List DV) : tab T11 49 args = F_slow args := nrfl _
theorem T11_at_may (args : List DV) : tab T11 24 args = F_may args := nrfl _
theorem T11_at_runes (args : List DV) : tab T11 16 args = F_runes args := nrfl _
theorem T11_b : type_of% (And.intro @T11_at_whole <| And.intro @F_whole_1 <| And.intro @T11_at_put <| And.intro @F_put_1 <| And.intro @T11_at_uall <| And.intro @F_uall_1 <| And.intro @T11_at_rbegins <| And.intro @F_rbegins_1 <| And.intro @T11_at_appRune <| And.intro @F_appRune_1 <| And.intro @T11_at_appNon <| And.intro @F_appNon_1 <| And.intro @T11_at_step <| And.intro @F_step_1 <| And.intro @T11_at_ubegins <| And.intro @F_ubegins_1 <| And.intro @T11_at_decode <| And.intro @F_decode_1 <| And.intro @T11_at_full <| And.intro @F_full_1 <| And.intro @T11_at_clone <| And.intro @F_clone_nil <| And.intro @F_clone_non <| And.intro @T11_at_slow <| And.intro @F_slow_1 <| And.intro @T11_at_may <| And.intro @F_may_1 <| And.intro @T11_at_runes <| @F_runes_1) := And.intro @T11_at_whole <| And.intro @F_whole_1 <| And.intro @T11_at_put <| And.intro @F_put_1 <| And.intro @T11_at_uall <| And.intro @F_uall_1 <| And.intro @T11_at_rbegins <| And.intro @F_rbegins_1 <| And.intro @T11_at_appRune <| And.intro @F_appRune_1 <| And.intro @T11_at_appNon <| And.intro @F_appNon_1 <| And.intro @T11_at_step <| And.intro @F_step_1 <| And.intro @T11_at_ubegins <| And.intro @F_ubegins_1 <| And.intro @T11_at_decode <| And.intro @F_decode_1 <| And.intro @T11_at_full <| And.intro @F_full_1 <| And.intro @T11_at_clone <| And.intro @F_clone_nil <| And.intro @F_clone_non <| And.intro @T11_at_slow <| And.intro @F_slow_1 <| And.intro @T11_at_may <| And.intro @F_may_1 <| And.intro @T11_at_runes <| @F_runes_1


def rstepB (out : List Int) (b : Int) : List Int × List Int := if b < 128 then ([], out ++ [b]) else if ubeg [b] = true then ([b], out) else ([], out ++ [65533])
def rstep (p : List Int) (b : Int) : List Int × List Int :=
  if 0 < p.length ∧ ubeg p = true then
    if (wholeF (p ++ [b])).2 = true then ([], [(wholeF (p ++ [b])).1])
    else if ubeg (p ++ [b]) = true then (p ++ [b], [])
    else rstepB [65533] b
  else rstepB [] b
theorem rstep_P {sz_p : Nat} {k_p : SK} {p : List Int} {b : Int} (hs_p : sz_p = 1 ∨ p = []) (hk_p : inK .u8 p) (hb_b : 0 ≤ b ∧ b ≤ 255) (hp : p.length ≤ 1000000) :
    PCalls PG 18 [.sl sz_p (intRows .u8 p) k_p, .int .u8 b] fun n RR OO => RR = ((.tup [.sl 1 (intRows .u8 (rstep p b).1) .any, .sl 1 (intRows .i32 (rstep p b).2) .any], []) : DV × Objs).1 ∧ OO = ((.tup [.sl 1 (intRows .u8 (rstep p b).1) .any, .sl 1 (intRows .i32 (rstep p b).2) .any], []) : DV × Objs).2 := by
  refine PCalls.by_fn (res := fun n => (.tup [.sl 1 (intRows .u8 (rstep p b).1) .any, .sl 1 (intRows .i32 (rstep p b).2) .any], [])) T11_ok rc_rstep_ok (by simp [rc_rstep]) fun n => ?_
  unfold rc_rstep
  dsimp only
  simp -implicitDefEqProofs only [T11_b, vcA1, vcA2, vcA3, vcA4, vcA5, vcA6, vcA7, ↓vcP1, ↓vcP2, ↓reduceIte, Option.map_some, Option.map_none, Option.bind_some, Option.bind_none, if_true, if_false, reduceCtorEq, beq_true, beq_false, Bool.not_true, Bool.not_false, BEq.rfl, Bool.true_beq, Bool.false_beq, and_true, true_and, and_self, decide_true, decide_false, List.length_cons, List.length_nil, List.all_cons, List.all_nil, Bool.and_true, Bool.and_self, List.getElem?_cons_zero, List.getElem?_cons_succ, List.set_cons_zero, List.set_cons_succ, List.nil_append, List.cons_append, List.append_nil, List.map_cons, List.map_nil, not_true_eq_false, not_false_eq_true, false_implies, true_implies, implies_true, List.take_succ_cons, List.take_zero, List.take_nil, List.drop_succ_cons, List.drop_zero, List.drop_nil, Nat.reduceLT, Nat.reduceLeDiff, Nat.reduceEqDiff, Nat.reduceAdd, Nat.reduceSub, Nat.reduceMul, Int.reduceLT, Int.reduceLE, Int.reduceEq, Int.reduceToNat, Int.reduceAdd, Int.reduceSub, Int.reduceNeg, List.reduceReplicate, List.replicate_zero, List.replicate_succ, ne_eq, List.flatMap_cons, List.flatMap_nil, List.length_replicate, List.length_append, Nat.le_refl, Nat.le_add_right, Nat.add_assoc, List.append_assoc, or_true, true_or, or_false, false_or, and_false, false_and, exists_eq_left, exists_eq_left', Option.some.injEq, DV.int.injEq, DV.bool.injEq, DV.sl.injEq, DV.own.injEq, DV.tup.injEq, List.cons.injEq, Ob.arr.injEq, Ob.box.injEq, Option.map_map, Int.toNat_natCast, Int.toNat_zero, Nat.reducePow, Int.toNat_one, Int.reduceMul, Nat.mul_one, Nat.zero_add, Nat.add_zero, Function.comp_apply, List.map_append, List.map_replicate, Int.cast_ofNat_Int, Nat.left_eq_add, Nat.add_eq_left, Nat.add_left_cancel_iff]
  have hi : isInts .u8 (.sl sz_p (intRows .u8 p) k_p) := isInts_mk hs_p hk_p
  have hkb : inK .u8 [b] := inK_u8 (by simp) (by simpa using hb_b)
  have hka : inK .u8 (p ++ [b]) := hk_p.append hkb (by simp; omega)
  have ht : List.take (p.length + 1) (p ++ [b]) = p ++ [b] := List.take_of_length_le (by simp)
  have hl : 0 < (p ++ [b]).length := by simp
  have hw : IntKind.i32.wrap b = b := wI32 (by omega) (by omega)
  have hz : (sz_p = 1 ∨ intRows .u8 p = []) := hs_p.imp id fun h => by simp [h, intRows]
  simp only [hi, hkb, hka, ht, hl, hw, hz, rstep, rstepB, true_and, show ((0 : Int) < p.length) = (0 < p.length) from by simp]
  generalize wholeF (p ++ [b]) = W
  generalize ubeg (p ++ [b]) = U
  generalize ubeg [b] = U1
  simp only [cnd_gen]
  grind [intRows_nil]
def F_rstep : List DV → Option FSpec
  | [a_p, .int .u8 b] => some ⟨isInts .u8 a_p ∧ (0 ≤ b ∧ b ≤ 255) ∧ (intsD a_p).length ≤ 1000000, fun n => (.tup [.sl 1 (intRows .u8 (rstep (intsD a_p) b).1) .any, .sl 1 (intRows .i32 (rstep (intsD a_p) b).2) .any], [])⟩
  | _ => none
theorem F_rstep_1 (a_p : DV) (b : Int) : F_rstep [a_p, .int .u8 b] = some ⟨isInts .u8 a_p ∧ (0 ≤ b ∧ b ≤ 255) ∧ (intsD a_p).length ≤ 1000000, fun n => (.tup [.sl 1 (intRows .u8 (rstep (intsD a_p) b).1) .any, .sl 1 (intRows .i32 (rstep (intsD a_p) b).2) .any], [])⟩ := nrfl _
theorem rstep_ok (args : List DV) (s : FSpec) (hs : F_rstep args = some s) (hp : s.pre) : PCalls PG 18 args fun n r os => r = (s.res n).1 ∧ os = (s.res n).2 := by
  unfold F_rstep at hs
  split at hs
  · rename_i a_p b
    obtain rfl := Option.some.inj hs
    obtain ⟨hi_p, hb_b, hp⟩ := hp
    obtain ⟨s0_p, k0_p, h1_p, h2_p, h3_p⟩ := isInts_inv hi_p
    have this := rstep_P (k_p := k0_p) h2_p h3_p hb_b hp
    rw [← h1_p] at this
    exact this
  · cases hs

def T12 : List (Nat × (List DV → Option FSpec)) := (18, F_rstep) :: T11
theorem T12_ok : FOk PG (tab T12) := FOk.cons (T11_ok) rstep_ok
theorem T12_at_rstep (args : List DV) : tab T12 18 args = F_rstep args := nrfl _
theorem T12_at_whole (args : List DV) : tab T12 37 args = F_whole args := nrfl _
theorem T12_at_put (args : List DV) : tab T12 21 args = F_put args := nrfl _
theorem T12_at_uall (args : List DV) : tab T12 14 args = F_uall args := nrfl _
theorem T12_at_rbegins (args : List DV) : tab T12 20 args = F_rbegins args := nrfl _
theorem T12_at_appRune (args : List DV) : tab T12 39 args = F_appRune args := nrfl _
theorem T12_at_appNon (args : List DV) : tab T12 50 args = F_appNon args := nrfl _
theorem T12_at_step (args : List DV) : tab T12 17 args = F_step args := nrfl _
theorem T12_at_ubegins (args : List DV) : tab T12 19 args = F_ubegins args := nrfl _
theorem T12_at_decode (args : List DV) : tab T12 36 args = F_decode args := nrfl _
theorem T12_at_full (args : List DV) : tab T12 38 args = F_full args := nrfl _
theorem T12_at_clone (args : List DV) : tab T12 35 args = F_clone args := nrfl _
theorem T12_at_slow (args : List DV) : tab T12 49 args = F_slow args := nrfl _
theorem T12_at_may (args : List DV) : tab T12 24 args = F_may args := nrfl _
theorem T12_at_runes (args : List DV) : tab T12 16 args = F_runes args := nrfl _
theorem T12_b : type_of% (And.intro @T12_at_rstep <| And.intro @F_rstep_1 <| And.intro @T12_at_whole <| And.intro @F_whole_1 <| And.intro @T12_at_put <| And.intro @F_put_1 <| And.intro @T12_at_uall <| And.intro @F_uall_1 <| And.intro @T12_at_rbegins <| And.intro @F_rbegins_1 <| And.intro @T12_at_appRune <| And.intro @F_appRune_1 <| And.intro @T12_at_appNon <| And.intro @F_appNon_1 <| And.intro @T12_at_step <| And.intro @F_step_1 <| And.intro @T12_at_ubegins <| And.intro @F_ubegins_1 <| And.intro @T12_at_decode <| And.intro @F_decode_1 <| And.intro @T12_at_full <| And.intro @F_full_1 <| And.intro @T12_at_clone <| And.intro @F_clone_nil <| And.intro @F_clone_non <| And.intro @T12_at_slow <| And.intro @F_slow_1 <| And.intro @T12_at_may <| And.intro @F_may_1 <| And.intro @T12_at_runes <| @F_runes_1) := And.intro @T12_at_rstep <| And.intro @F_rstep_1 <| And.intro @T12_at_whole <| And.intro @F_whole_1 <| And.intro @T12_at_put <| And.intro @F_put_1 <| And.intro @T12_at_uall <| And.intro @F_uall_1 <| And.intro @T12_at_rbegins <| And.intro @F_rbegins_1 <| And.intro @T12_at_appRune <| And.intro @F_appRune_1 <| And.intro @T12_at_appNon <| And.intro @F_appNon_1 <| And.intro @T12_at_step <| And.intro @F_step_1 <| And.intro @T12_at_ubegins <| And.intro @F_ubegins_1 <| And.intro @T12_at_decode <| And.intro @F_decode_1 <| And.intro @T12_at_full <| And.intro @F_full_1 <| And.intro @T12_at_clone <| And.intro @F_clone_nil <| And.intro @F_clone_non <| And.intro @T12_at_slow <| And.intro @F_slow_1 <| And.intro @T12_at_may <| And.intro @F_may_1 <| And.intro @T12_at_runes <| @F_runes_1

theorem rform_x {r : Int} (hr : -2147483648 ≤ r ∧ r ≤ 2147483647) (hm : may r = true) : 0 ≤ r ∧ r ≤ 1114111 ∧ (r < 55296 ∨ 57343 < r) := by
  simp only [may, Bool.and_eq_true, Bool.or_eq_true, decide_eq_true_eq] at hm
  omega
theorem rform_P {r : Int} (hb_r : -2147483648 ≤ r ∧ r ≤ 2147483647)  :
    PCalls PG 22 [.int .i32 r] fun n RR OO => RR = ((.own n 0 (enc r).length, [some (.arr 1 (intRows .u8 (enc r)))]) : DV × Objs).1 ∧ OO = ((.own n 0 (enc r).length, [some (.arr 1 (intRows .u8 (enc r)))]) : DV × Objs).2 := by
  refine PCalls.by_fn (res := fun n => (.own n 0 (enc r).length, [some (.arr 1 (intRows .u8 (enc r)))])) T12_ok rc_rform_ok (by simp [rc_rform]) fun n => ?_
  unfold rc_rform
  dsimp only
  simp -implicitDefEqProofs only [T12_b, and7_u8, and15_u8, and31_u8, and63_u8, vcA1, vcA2, vcA3, vcA4, vcA5, vcA6, vcA7, ↓vcP1, ↓vcP2, ↓reduceIte, Option.map_some, Option.map_none, Option.bind_some, Option.bind_none, if_true, if_false, reduceCtorEq, beq_true, beq_false, Bool.not_true, Bool.not_false, BEq.rfl, Bool.true_beq, Bool.false_beq, and_true, true_and, and_self, decide_true, decide_false, List.length_cons, List.length_nil, List.all_cons, List.all_nil, Bool.and_true, Bool.and_self, List.getElem?_cons_zero, List.getElem?_cons_succ, List.set_cons_zero, List.set_cons_succ, List.nil_append, List.cons_append, List.append_nil, List.map_cons, List.map_nil, not_true_eq_false, not_false_eq_true, false_implies, true_implies, implies_true, List.take_succ_cons, List.take_zero, List.take_nil, List.drop_succ_cons, List.drop_zero, List.drop_nil, Nat.reduceLT, Nat.reduceLeDiff, Nat.reduceEqDiff, Nat.reduceAdd, Nat.reduceSub, Nat.reduceMul, Int.reduceLT, Int.reduceLE, Int.reduceEq, Int.reduceToNat, Int.reduceAdd, Int.reduceSub, Int.reduceNeg, List.reduceReplicate, List.replicate_zero, List.replicate_succ, ne_eq, List.flatMap_cons, List.flatMap_nil, List.length_replicate, List.length_append, Nat.le_refl, Nat.le_add_right, Nat.add_assoc, List.append_assoc, or_true, true_or, or_false, false_or, and_false, false_and, exists_eq_left, exists_eq_left', Option.some.injEq, DV.int.injEq, DV.bool.injEq, DV.sl.injEq, DV.own.injEq, DV.tup.injEq, List.cons.injEq, Ob.arr.injEq, Ob.box.injEq, Option.map_map, Int.toNat_natCast, Int.toNat_zero, Nat.reducePow, Int.toNat_one, Int.reduceMul, Nat.mul_one, Nat.zero_add, Nat.add_zero, Function.comp_apply, List.map_append, List.map_replicate, Int.cast_ofNat_Int, Nat.left_eq_add, Nat.add_eq_left, Nat.add_left_cancel_iff]
  have e6 : ∀ a : Int, a.fdiv (2 ^ min 6 IntKind.i32.bits) = a / 64 := fun a => Int.fdiv_eq_ediv_of_nonneg a (by decide)
  have e12 : ∀ a : Int, a.fdiv (2 ^ min 12 IntKind.i32.bits) = a / 4096 := fun a => Int.fdiv_eq_ediv_of_nonneg a (by decide)
  have e18 : ∀ a : Int, a.fdiv (2 ^ min 18 IntKind.i32.bits) = a / 262144 := fun a => Int.fdiv_eq_ediv_of_nonneg a (by decide)
  have a63 : ∀ a : Int, IntKind.i32.wrap (BitVec.ofInt IntKind.i32.bits a &&& BitVec.ofInt IntKind.i32.bits 63).toNat = a % 64 := fun a => and_mask .i32 6 a (by decide)
  have o1 : ∀ x : Int, IntKind.i32.wrap (BitVec.ofInt IntKind.i32.bits 128 ||| BitVec.ofInt IntKind.i32.bits (x % 64)).toNat = 128 + x % 64 := fun x => or_i32 6 128 _ (by decide) (by decide) (by omega) (by omega) (by omega)
  have o2 : ∀ x : Int, 0 ≤ x → x < 32 → IntKind.i32.wrap (BitVec.ofInt IntKind.i32.bits 192 ||| BitVec.ofInt IntKind.i32.bits x).toNat = 192 + x := fun x a b => or_i32 5 192 _ (by decide) (by decide) (by omega) (by omega) (by omega)
  have o3 : ∀ x : Int, 0 ≤ x → x < 16 → IntKind.i32.wrap (BitVec.ofInt IntKind.i32.bits 224 ||| BitVec.ofInt IntKind.i32.bits x).toNat = 224 + x := fun x a b => or_i32 4 224 _ (by decide) (by decide) (by omega) (by omega) (by omega)
  have o4 : ∀ x : Int, 0 ≤ x → x < 8 → IntKind.i32.wrap (BitVec.ofInt IntKind.i32.bits 240 ||| BitVec.ofInt IntKind.i32.bits x).toNat = 240 + x := fun x a b => or_i32 3 240 _ (by decide) (by decide) (by omega) (by omega) (by omega)
  have w8 : ∀ x : Int, 0 ≤ x → x < 256 → IntKind.u8.wrap x = x := fun x a b => wU8 a (by omega)
  simp only [e6, e12, e18, a63, o1]
  rw [o3 (65533 / 4096) (by decide) (by decide)]
  cases hm : may r
  · have he : enc r = [239, 191, 189] := by
      have h1 : ¬ (0 ≤ r ∧ r ≤ 1114111 ∧ (r < 55296 ∨ 57343 < r)) := fun h => by
        have : may r = true := by simp [may]; omega
        rw [hm] at this; cases this
      unfold enc
      rw [if_neg (by omega), if_neg (by omega), if_neg (by omega), if_neg (by omega)]
    rw [cnd_false, he]
    exact ⟨rfl, rfl⟩
  · have hx := rform_x hb_r hm
    rw [cnd_true]
    refine ⟨fun h => ?_, fun h => ⟨fun h2 => ?_, fun h2 => ⟨fun h3 => ?_, fun h3 => ?_⟩⟩⟩
    · have he : enc r = [r] := by unfold enc; rw [if_pos (by omega)]
      rw [he, w8 _ (by omega) (by omega)]; exact ⟨rfl, rfl⟩
    · have he : enc r = [192 + r / 64, 128 + r % 64] := by unfold enc; rw [if_neg (by omega), if_pos (by omega)]
      rw [he, o2 _ (by omega) (by omega), w8 _ (by omega) (by omega), w8 _ (by omega) (by omega)]; exact ⟨rfl, rfl⟩
    · have he : enc r = [224 + r / 4096, 128 + r / 64 % 64, 128 + r % 64] := by unfold enc; rw [if_neg (by omega), if_neg (by omega), if_pos (by omega)]
      rw [he, o3 _ (by omega) (by omega), w8 _ (by omega) (by omega), w8 _ (by omega) (by omega), w8 _ (by omega) (by omega)]; exact ⟨rfl, rfl⟩
    · have he : enc r = [240 + r / 262144, 128 + r / 4096 % 64, 128 + r / 64 % 64, 128 + r % 64] := by unfold enc; rw [if_neg (by omega), if_neg (by omega), if_neg (by omega), if_pos (by omega)]
      rw [he, o4 _ (by omega) (by omega), w8 _ (by omega) (by omega), w8 _ (by omega) (by omega), w8 _ (by omega) (by omega), w8 _ (by omega) (by omega)]; exact ⟨rfl, rfl⟩
def F_rform : List DV → Option FSpec
  | [.int .i32 r] => some ⟨(-2147483648 ≤ r ∧ r ≤ 2147483647) ∧ True, fun n => (.own n 0 (enc r).length, [some (.arr 1 (intRows .u8 (enc r)))])⟩
  | _ => none
theorem F_rform_1 (r : Int) : F_rform [.int .i32 r] = some ⟨(-2147483648 ≤ r ∧ r ≤ 2147483647) ∧ True, fun n => (.own n 0 (enc r).length, [some (.arr 1 (intRows .u8 (enc r)))])⟩ := nrfl _
theorem rform_ok (args : List DV) (s : FSpec) (hs : F_rform args = some s) (hp : s.pre) : PCalls PG 22 args fun n r os => r = (s.res n).1 ∧ os = (s.res n).2 := by
  unfold F_rform at hs
  split at hs
  · rename_i r
    obtain rfl := Option.some.inj hs
    obtain ⟨hb_r, hp⟩ := hp
    have this := rform_P  hb_r 
    exact this
  · cases hs

/-! ### The document's functions come to the same as the program's -/
theorem getD_lt {l : List Int} (hk : inK .u8 l) {i : Nat} (hi : i < l.length) : 0 ≤ l.getD i 0 ∧ l.getD i 0 ≤ 255 := by
  rw [List.getD_eq_getElem?_getD, List.getElem?_eq_getElem hi]
  exact hk.u8 (List.getElem_mem hi)
theorem whole_dec1 {a : Int} (ha : 0 ≤ a ∧ a ≤ 255) : (wholeF [a]).2 = decide ((dec [a]).2 = (1 : Int) ∧ ((dec [a]).1 ≠ 65533 ∨ 1 < (dec [a]).2)) ∧ ((wholeF [a]).2 = true → (wholeF [a]).1 = (dec [a]).1) := by
  have : a = (a.toNat : Int) := by omega
  have h2 : a.toNat < 256 := by omega
  rw [this]
  generalize a.toNat = n at h2
  revert n
  decide +kernel
end Go.Proofs.YteemmpghpdaloaaDoor
