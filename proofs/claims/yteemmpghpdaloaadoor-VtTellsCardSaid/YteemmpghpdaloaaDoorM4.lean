/- Texts P10, P11, P12, P13, P14, P15 in one. -/
import Derived.Test.YteemmpghpdaloaaDoorM3
section
/- The document's functions of chapter 3: 'Step', 'All', 'Form'. -/
set_option linter.unusedVariables false
set_option linter.unusedSimpArgs false
set_option maxRecDepth 10000
namespace Go.Proofs.YteemmpghpdaloaaDoor
open Go.RowKit

noncomputable def rc_rstep : RFn := ⟨2, 54, (.seq (.reg [⟨(some 4), (.mov (.c (.sl 0 [] .nil))), none, false⟩, ⟨(some 5), (.mov (.c (.sl 0 [] .nil))), none, false⟩] 0 [0, 1]) (.seq (.reg [⟨(some 6), (.mov (.c (.sl 0 [] .nil))), none, false⟩] 0 [0, 1, 6]) (.seq (.seq (.reg [⟨(some 10), (.mov (.t 0)), none, false⟩, ⟨(some 11), (.len (.t 10)), none, false⟩, ⟨(some 12), (.bin .gtr (.t 11) (.c (.int .i64 0))), none, false⟩, ⟨(some 13), (.mov (.t 12)), none, false⟩, ⟨(some 14), (.mov (.t 0)), (some (13, true)), false⟩, ⟨(some 15), (.call 20 [(.t 14)]), (some (13, true)), false⟩, ⟨(some 16), (.pick (.t 13) (.t 15) (.c (.bool false))), none, false⟩] 0 [0, 1, 6, 16]) (.cond (.t 16) (.seq (.reg [⟨(some 17), (.mov (.t 0)), none, false⟩, ⟨(some 18), (.append 1 1 (.c (.sl 0 [] .nil)) (.t 17)), none, false⟩, ⟨(some 19), (.mov (.t 1)), none, false⟩, ⟨(some 20), (.mkrow 1 [(.int .u8 0)] 1 [(0, (.t 19))]), none, false⟩, ⟨(some 21), (.append 1 1 (.t 18) (.t 20)), none, false⟩, ⟨(some 7), (.mov (.t 21)), none, true⟩] 0 [1, 6, 7]) (.seq (.seq (.reg [⟨(some 23), (.mov (.t 7)), none, false⟩, ⟨(some 24), (.call 37 [(.t 23)]), none, false⟩, ⟨(some 22), (.mov (.t 24)), none, false⟩, ⟨(some 25), (.ext (.t 22) 0), none, false⟩, ⟨(some 26), (.ext (.t 22) 1), none, false⟩, ⟨(some 8), (.mov (.t 25)), none, false⟩, ⟨(some 9), (.mov (.t 26)), none, false⟩] 0 [1, 6, 7, 8, 9]) (.seq (.reg [⟨(some 27), (.mov (.t 9)), none, false⟩] 0 [1, 6, 7, 8, 27]) (.cond (.t 27) (.seq (.reg [⟨(some 28), (.mov (.t 8)), none, false⟩, ⟨(some 29), (.mkrow 1 [(.int .i32 0)] 1 [(0, (.t 28))]), none, false⟩, ⟨(some 4), (.mov (.c (.sl 0 [] .nil))), none, false⟩, ⟨(some 5), (.mov (.t 29)), none, true⟩] 0 [4, 5]) .ret) .skip))) (.seq (.seq (.reg [⟨(some 30), (.mov (.t 7)), none, false⟩, ⟨(some 31), (.call 20 [(.t 30)]), none, false⟩] 0 [1, 6, 7, 31]) (.cond (.t 31) (.seq (.reg [⟨(some 32), (.mov (.t 7)), none, false⟩, ⟨(some 4), (.mov (.t 32)), none, false⟩, ⟨(some 5), (.mov (.c (.sl 0 [] .nil))), none, false⟩] 0 [4, 5]) .ret) .skip)) (.reg [⟨(some 33), (.mov (.t 6)), none, false⟩, ⟨(some 34), (.mkrow 1 [(.int .i32 0)] 1 [(0, (.c (.int .i32 65533)))]), none, false⟩, ⟨(some 35), (.append 1 4 (.t 33) (.t 34)), none, false⟩, ⟨(some 6), (.mov (.t 35)), none, false⟩] 0 [1, 6])))) .skip)) (.seq (.blk 0 (.seq (.reg [⟨(some 37), (.mov (.t 1)), none, false⟩, ⟨(some 38), (.bin .lss (.t 37) (.c (.int .u8 128))), none, false⟩, ⟨(some 36), (.mov (.t 38)), none, false⟩] 0 [1, 6, 36]) (.cond (.t 36) (.seq (.reg [⟨(some 39), (.mov (.t 6)), none, false⟩, ⟨(some 40), (.mov (.t 1)), none, false⟩, ⟨(some 41), (.conv (.i2i .i32) (.t 40)), none, false⟩, ⟨(some 42), (.mkrow 1 [(.int .i32 0)] 1 [(0, (.t 41))]), none, false⟩, ⟨(some 43), (.append 1 4 (.t 39) (.t 42)), none, false⟩, ⟨(some 4), (.mov (.c (.sl 0 [] .nil))), none, false⟩, ⟨(some 5), (.mov (.t 43)), none, true⟩] 0 [4, 5]) .ret) (.seq (.reg [⟨(some 45), (.mov (.t 1)), none, false⟩, ⟨(some 46), (.mkrow 1 [(.int .u8 0)] 1 [(0, (.t 45))]), none, true⟩, ⟨(some 47), (.call 20 [(.t 46)]), none, false⟩, ⟨(some 44), (.mov (.t 47)), none, false⟩] 0 [1, 6, 44]) (.cond (.t 44) (.seq (.reg [⟨(some 48), (.mov (.t 1)), none, false⟩, ⟨(some 49), (.mkrow 1 [(.int .u8 0)] 1 [(0, (.t 48))]), none, false⟩, ⟨(some 50), (.mov (.t 6)), none, false⟩, ⟨(some 4), (.mov (.t 49)), none, true⟩, ⟨(some 5), (.mov (.t 50)), none, true⟩] 0 [4, 5]) .ret) .skip))))) (.seq (.reg [⟨(some 51), (.mov (.t 6)), none, false⟩, ⟨(some 52), (.mkrow 1 [(.int .i32 0)] 1 [(0, (.c (.int .i32 65533)))]), none, false⟩, ⟨(some 53), (.append 1 4 (.t 51) (.t 52)), none, false⟩, ⟨(some 4), (.mov (.c (.sl 0 [] .nil))), none, false⟩, ⟨(some 5), (.mov (.t 53)), none, true⟩] 0 [4, 5]) .ret))))), [(.t 4), (.t 5)]⟩
theorem rc_rstep_ok : compFn PG.P [⟨0, 0, [0, 1], []⟩, ⟨1, 0, [0, 1, 6], []⟩, ⟨2, 0, [0, 1, 6, 16], []⟩, ⟨3, 0, [1, 6, 7], [7]⟩, ⟨4, 0, [1, 6, 7, 8, 9], []⟩, ⟨5, 0, [1, 6, 7, 8, 27], []⟩, ⟨6, 0, [4, 5], [5]⟩, ⟨7, 0, [1, 6, 7, 31], []⟩, ⟨8, 0, [4, 5], []⟩, ⟨9, 0, [1, 6], []⟩, ⟨10, 0, [1, 6, 36], []⟩, ⟨11, 0, [4, 5], [5]⟩, ⟨12, 0, [1, 6, 44], [46]⟩, ⟨13, 0, [4, 5], [4, 5]⟩, ⟨14, 0, [4, 5], [5]⟩] 18 = some rc_rstep := by kernel_rfl
noncomputable def rc_rall_l0 : RC := (.seq (.seq (.reg [⟨(some 9), (.mov (.t 6)), none, false⟩, ⟨(some 10), (.mov (.t 0)), none, false⟩, ⟨(some 11), (.len (.t 10)), none, false⟩, ⟨(some 12), (.bin .lss (.t 9) (.t 11)), none, false⟩] 0 [0, 4, 5, 6, 12]) (.cond (.t 12) .skip (.ext 0))) (.seq (.blk 1 (.seq (.reg [⟨(some 16), (.mov (.t 5)), none, false⟩, ⟨(some 17), (.mov (.t 0)), none, false⟩, ⟨(some 18), (.mov (.t 6)), none, false⟩, ⟨(some 19), (.iaddr 1 (.t 17) (.t 18)), none, false⟩, ⟨(some 20), (.load false 1 (.t 19)), none, false⟩, ⟨(some 21), (.call 18 [(.t 16), (.t 20)]), none, false⟩, ⟨(some 15), (.mov (.t 21)), none, false⟩, ⟨(some 22), (.ext (.t 15) 0), none, false⟩, ⟨(some 23), (.ext (.t 15) 1), none, false⟩, ⟨(some 7), (.mov (.t 22)), none, false⟩, ⟨(some 8), (.mov (.t 23)), none, false⟩] 0 [0, 4, 6, 7, 8]) (.reg [⟨(some 24), (.mov (.t 7)), none, false⟩, ⟨(some 25), (.mov (.t 4)), none, false⟩, ⟨(some 26), (.mov (.t 8)), none, false⟩, ⟨(some 27), (.append 1 4 (.t 25) (.t 26)), none, false⟩, ⟨(some 5), (.mov (.t 24)), none, false⟩, ⟨(some 4), (.mov (.t 27)), none, false⟩] 0 [0, 4, 5, 6]))) (.reg [⟨(some 13), (.mov (.t 6)), none, false⟩, ⟨(some 14), (.bin .add (.t 13) (.c (.int .i64 1))), none, false⟩, ⟨(some 6), (.mov (.t 14)), none, false⟩] 0 [0, 4, 5, 6])))
noncomputable def rc_rall : RFn := ⟨1, 30, (.seq (.reg [⟨(some 2), (.mov (.c (.sl 0 [] .nil))), none, false⟩, ⟨(some 3), (.mov (.c (.sl 0 [] .nil))), none, false⟩] 0 [0]) (.seq (.reg [⟨(some 4), (.mov (.c (.sl 0 [] .nil))), none, false⟩] 0 [0, 4]) (.seq (.reg [⟨(some 5), (.mov (.c (.sl 0 [] .nil))), none, false⟩] 0 [0, 4, 5]) (.seq (.seq (.reg [⟨(some 6), (.mov (.c (.int .i64 0))), none, false⟩] 0 [0, 4, 5, 6]) (.blk 0 (.loop rc_rall_l0))) (.seq (.reg [⟨(some 28), (.mov (.t 4)), none, false⟩, ⟨(some 29), (.mov (.t 5)), none, false⟩, ⟨(some 2), (.mov (.t 28)), none, true⟩, ⟨(some 3), (.mov (.t 29)), none, true⟩] 0 [2, 3]) .ret))))), [(.t 2), (.t 3)]⟩
theorem rc_rall_ok : compFn PG.P [⟨0, 0, [0], []⟩, ⟨1, 0, [0, 4], []⟩, ⟨2, 0, [0, 4, 5], []⟩, ⟨3, 0, [0, 4, 5, 6], []⟩, ⟨4, 0, [0, 4, 5, 6, 12], []⟩, ⟨5, 0, [0, 4, 5, 6], []⟩, ⟨6, 0, [0, 4, 6, 7, 8], []⟩, ⟨7, 0, [0, 4, 5, 6], []⟩, ⟨8, 0, [2, 3], [2, 3]⟩] 15 = some rc_rall := by kernel_rfl
noncomputable def rc_rform : RFn := ⟨1, 60, (.seq (.reg [⟨(some 2), (.mov (.c (.sl 0 [] .nil))), none, false⟩] 0 [0]) (.seq (.seq (.reg [⟨(some 3), (.mov (.t 0)), none, false⟩, ⟨(some 4), (.call 24 [(.t 3)]), none, false⟩, ⟨(some 5), (.un .not (.t 4)), none, false⟩] 0 [0, 5]) (.cond (.t 5) (.reg [⟨(some 0), (.mov (.c (.int .i32 65533))), none, false⟩] 0 [0]) .skip)) (.seq (.blk 0 (.seq (.reg [⟨(some 7), (.mov (.t 0)), none, false⟩, ⟨(some 8), (.bin .lss (.t 7) (.c (.int .i32 128))), none, false⟩, ⟨(some 6), (.mov (.t 8)), none, false⟩] 0 [0, 6]) (.cond (.t 6) (.seq (.reg [⟨(some 9), (.mov (.t 0)), none, false⟩, ⟨(some 10), (.conv (.i2i .u8) (.t 9)), none, false⟩, ⟨(some 11), (.mkrow 1 [(.int .u8 0)] 1 [(0, (.t 10))]), none, false⟩, ⟨(some 2), (.mov (.t 11)), none, false⟩] 0 [2]) .ret) (.seq (.reg [⟨(some 13), (.mov (.t 0)), none, false⟩, ⟨(some 14), (.bin .lss (.t 13) (.c (.int .i32 2048))), none, false⟩, ⟨(some 12), (.mov (.t 14)), none, false⟩] 0 [0, 12]) (.cond (.t 12) (.seq (.reg [⟨(some 15), (.mov (.t 0)), none, false⟩, ⟨(some 16), (.bin .shr (.t 15) (.c (.int .u64 6))), none, false⟩, ⟨(some 17), (.bin .or (.c (.int .i32 192)) (.t 16)), none, false⟩, ⟨(some 18), (.conv (.i2i .u8) (.t 17)), none, false⟩, ⟨(some 19), (.mov (.t 0)), none, false⟩, ⟨(some 20), (.bin .and (.t 19) (.c (.int .i32 63))), none, false⟩, ⟨(some 21), (.bin .or (.c (.int .i32 128)) (.t 20)), none, false⟩, ⟨(some 22), (.conv (.i2i .u8) (.t 21)), none, false⟩, ⟨(some 23), (.mkrow 1 [(.int .u8 0)] 2 [(0, (.t 18)), (1, (.t 22))]), none, false⟩, ⟨(some 2), (.mov (.t 23)), none, false⟩] 0 [2]) .ret) (.seq (.reg [⟨(some 25), (.mov (.t 0)), none, false⟩, ⟨(some 26), (.bin .lss (.t 25) (.c (.int .i32 65536))), none, false⟩, ⟨(some 24), (.mov (.t 26)), none, false⟩] 0 [0, 24]) (.cond (.t 24) (.seq (.reg [⟨(some 27), (.mov (.t 0)), none, false⟩, ⟨(some 28), (.bin .shr (.t 27) (.c (.int .u64 12))), none, false⟩, ⟨(some 29), (.bin .or (.c (.int .i32 224)) (.t 28)), none, false⟩, ⟨(some 30), (.conv (.i2i .u8) (.t 29)), none, false⟩, ⟨(some 31), (.mov (.t 0)), none, false⟩, ⟨(some 32), (.bin .shr (.t 31) (.c (.int .u64 6))), none, false⟩, ⟨(some 33), (.bin .and (.t 32) (.c (.int .i32 63))), none, false⟩, ⟨(some 34), (.bin .or (.c (.int .i32 128)) (.t 33)), none, false⟩, ⟨(some 35), (.conv (.i2i .u8) (.t 34)), none, false⟩, ⟨(some 36), (.mov (.t 0)), none, false⟩, ⟨(some 37), (.bin .and (.t 36) (.c (.int .i32 63))), none, false⟩, ⟨(some 38), (.bin .or (.c (.int .i32 128)) (.t 37)), none, false⟩, ⟨(some 39), (.conv (.i2i .u8) (.t 38)), none, false⟩, ⟨(some 40), (.mkrow 1 [(.int .u8 0)] 3 [(0, (.t 30)), (1, (.t 35)), (2, (.t 39))]), none, false⟩, ⟨(some 2), (.mov (.t 40)), none, false⟩] 0 [2]) .ret) .skip))))))) (.seq (.reg [⟨(some 41), (.mov (.t 0)), none, false⟩, ⟨(some 42), (.bin .shr (.t 41) (.c (.int .u64 18))), none, false⟩, ⟨(some 43), (.bin .or (.c (.int .i32 240)) (.t 42)), none, false⟩, ⟨(some 44), (.conv (.i2i .u8) (.t 43)), none, false⟩, ⟨(some 45), (.mov (.t 0)), none, false⟩, ⟨(some 46), (.bin .shr (.t 45) (.c (.int .u64 12))), none, false⟩, ⟨(some 47), (.bin .and (.t 46) (.c (.int .i32 63))), none, false⟩, ⟨(some 48), (.bin .or (.c (.int .i32 128)) (.t 47)), none, false⟩, ⟨(some 49), (.conv (.i2i .u8) (.t 48)), none, false⟩, ⟨(some 50), (.mov (.t 0)), none, false⟩, ⟨(some 51), (.bin .shr (.t 50) (.c (.int .u64 6))), none, false⟩, ⟨(some 52), (.bin .and (.t 51) (.c (.int .i32 63))), none, false⟩, ⟨(some 53), (.bin .or (.c (.int .i32 128)) (.t 52)), none, false⟩, ⟨(some 54), (.conv (.i2i .u8) (.t 53)), none, false⟩, ⟨(some 55), (.mov (.t 0)), none, false⟩, ⟨(some 56), (.bin .and (.t 55) (.c (.int .i32 63))), none, false⟩, ⟨(some 57), (.bin .or (.c (.int .i32 128)) (.t 56)), none, false⟩, ⟨(some 58), (.conv (.i2i .u8) (.t 57)), none, false⟩, ⟨(some 59), (.mkrow 1 [(.int .u8 0)] 4 [(0, (.t 44)), (1, (.t 49)), (2, (.t 54)), (3, (.t 58))]), none, false⟩, ⟨(some 2), (.mov (.t 59)), none, false⟩] 0 [2]) .ret)))), [(.t 2)]⟩
theorem rc_rform_ok : compFn PG.P [⟨0, 0, [0], []⟩, ⟨1, 0, [0, 5], []⟩, ⟨2, 0, [0], []⟩, ⟨3, 0, [0, 6], []⟩, ⟨4, 0, [2], []⟩, ⟨5, 0, [0, 12], []⟩, ⟨6, 0, [2], []⟩, ⟨7, 0, [0, 24], []⟩, ⟨8, 0, [2], []⟩, ⟨9, 0, [2], []⟩] 22 = some rc_rform := by kernel_rfl

def F_whole : List DV → Option FSpec
  | [a_l] => some ⟨isInts .u8 a_l ∧ 0 < (intsD a_l).length, fun n => (.tup [.int .i32 (wholeF (intsD a_l)).1, .bool (wholeF (intsD a_l)).2], [])⟩
  | _ => none
theorem F_whole_1 (a_l : DV) : F_whole [a_l] = some ⟨isInts .u8 a_l ∧ 0 < (intsD a_l).length, fun n => (.tup [.int .i32 (wholeF (intsD a_l)).1, .bool (wholeF (intsD a_l)).2], [])⟩ := nrfl _
theorem whole_ok (args : List DV) (s : FSpec) (hs : F_whole args = some s) (hp : s.pre) : PCalls PG 37 args fun n r os => r = (s.res n).1 ∧ os = (s.res n).2 := by
  unfold F_whole at hs
  split at hs
  · rename_i a_l
    obtain rfl := Option.some.inj hs
    obtain ⟨hi_l, hp⟩ := hp
    obtain ⟨s0_l, k0_l, h1_l, h2_l, h3_l⟩ := isInts_inv hi_l
    have this := whole_P (k_l := k0_l) h2_l h3_l hp
    rw [← h1_l] at this
    exact this
  · cases hs

def T11 : FL := (37, F_whole) :: T10
theorem T11_ok : FOk PG (tab T11) := FOk.cons (T10_ok) whole_ok
theorem T11_at_whole (args : List DV) : tab T11 37 args = (F_whole args).map .o := nrfl _
theorem T11_at_put (args : List DV) : tab T11 21 args = (F_put args).map .o := nrfl _
theorem T11_at_uall (args : List DV) : tab T11 14 args = (F_uall args).map .o := nrfl _
theorem T11_at_rbegins (args : List DV) : tab T11 20 args = (F_rbegins args).map .o := nrfl _
theorem T11_at_appRune (args : List DV) : tab T11 39 args = (F_appRune args).map .o := nrfl _
theorem T11_at_appNon (args : List DV) : tab T11 50 args = (F_appNon args).map .o := nrfl _
theorem T11_at_step (args : List DV) : tab T11 17 args = (F_step args).map .o := nrfl _
theorem T11_at_ubegins (args : List DV) : tab T11 19 args = (F_ubegins args).map .o := nrfl _
theorem T11_at_decode (args : List DV) : tab T11 36 args = (F_decode args).map .o := nrfl _
theorem T11_at_full (args : List DV) : tab T11 38 args = (F_full args).map .o := nrfl _
theorem T11_at_clone (args : List DV) : tab T11 35 args = (F_clone args).map .o := nrfl _
theorem T11_at_slow (args : List DV) : tab T11 49 args = (F_slow args).map .o := nrfl _
theorem T11_at_may (args : List DV) : tab T11 24 args = (F_may args).map .o := nrfl _
theorem T11_at_runes (args : List DV) : tab T11 16 args = (F_runes args).map .o := nrfl _
theorem T11_b : type_of% (And.intro @T11_at_whole <| And.intro @F_whole_1 <| And.intro @T11_at_put <| And.intro @F_put_1 <| And.intro @T11_at_uall <| And.intro @F_uall_1 <| And.intro @T11_at_rbegins <| And.intro @F_rbegins_1 <| And.intro @T11_at_appRune <| And.intro @F_appRune_1 <| And.intro @T11_at_appNon <| And.intro @F_appNon_1 <| And.intro @T11_at_step <| And.intro @F_step_1 <| And.intro @T11_at_ubegins <| And.intro @F_ubegins_1 <| And.intro @T11_at_decode <| And.intro @F_decode_1 <| And.intro @T11_at_full <| And.intro @F_full_1 <| And.intro @T11_at_clone <| And.intro @F_clone_nil <| And.intro @F_clone_non <| And.intro @T11_at_slow <| And.intro @F_slow_1 <| And.intro @T11_at_may <| And.intro @F_may_1 <| And.intro @T11_at_runes <| @F_runes_1) := And.intro @T11_at_whole <| And.intro @F_whole_1 <| And.intro @T11_at_put <| And.intro @F_put_1 <| And.intro @T11_at_uall <| And.intro @F_uall_1 <| And.intro @T11_at_rbegins <| And.intro @F_rbegins_1 <| And.intro @T11_at_appRune <| And.intro @F_appRune_1 <| And.intro @T11_at_appNon <| And.intro @F_appNon_1 <| And.intro @T11_at_step <| And.intro @F_step_1 <| And.intro @T11_at_ubegins <| And.intro @F_ubegins_1 <| And.intro @T11_at_decode <| And.intro @F_decode_1 <| And.intro @T11_at_full <| And.intro @F_full_1 <| And.intro @T11_at_clone <| And.intro @F_clone_nil <| And.intro @F_clone_non <| And.intro @T11_at_slow <| And.intro @F_slow_1 <| And.intro @T11_at_may <| And.intro @F_may_1 <| And.intro @T11_at_runes <| @F_runes_1


def rstepB (out : List Int) (b : Int) : List Int × List Int := if b < 128 then ([], out ++ [b]) else if ubeg [b] = true then ([b], out) else ([], out ++ [65533])
def rstep (p : List Int) (b : Int) : List Int × List Int :=
  if 0 < p.length ∧ ubeg p = true then
    if (wholeF (p ++ [b])).2 = true then ([], [(wholeF (p ++ [b])).1])
    else if ubeg (p ++ [b]) = true then (p ++ [b], [])
    else rstepB [65533] b
  else rstepB [] b
theorem rstep_P {sz_p : Nat} {k_p : SK} {p : List Int} {b : Int} (hs_p : sz_p = 1 ∨ p = []) (hk_p : inK .u8 p) (hb_b : 0 ≤ b ∧ b ≤ 255) (hp : p.length ≤ 1000000) :
    PCalls PG 18 [.sl sz_p (intRows .u8 p) k_p, .int .u8 b] fun n RR OO => RR = ((.tup [.sl 1 (intRows .u8 (rstep p b).1) .any, .sl 1 (intRows .i32 (rstep p b).2) .any], []) : DV × Objs).1 ∧ OO = ((.tup [.sl 1 (intRows .u8 (rstep p b).1) .any, .sl 1 (intRows .i32 (rstep p b).2) .any], []) : DV × Objs).2 := by
  refine PCalls.by_fn (res := fun n => (.tup [.sl 1 (intRows .u8 (rstep p b).1) .any, .sl 1 (intRows .i32 (rstep p b).2) .any], [])) T11_ok rc_rstep_ok (by simp [rc_rstep]) fun n => ?_
  unfold rc_rstep
  dsimp only
  simp -implicitDefEqProofs only [T11_b, vcA1, vcA2, vcA3, vcA4, vcA5, vcA6, vcA7, ↓vcP1, ↓vcP2, ↓reduceIte, Option.map_some, Option.map_none, Option.bind_some, Option.bind_none, if_true, if_false, reduceCtorEq, beq_true, beq_false, Bool.not_true, Bool.not_false, BEq.rfl, Bool.true_beq, Bool.false_beq, and_true, true_and, and_self, decide_true, decide_false, List.length_cons, List.length_nil, List.all_cons, List.all_nil, Bool.and_true, Bool.and_self, List.getElem?_cons_zero, List.getElem?_cons_succ, List.set_cons_zero, List.set_cons_succ, List.nil_append, List.cons_append, List.append_nil, List.map_cons, List.map_nil, not_true_eq_false, not_false_eq_true, false_implies, true_implies, implies_true, List.take_succ_cons, List.take_zero, List.take_nil, List.drop_succ_cons, List.drop_zero, List.drop_nil, Nat.reduceLT, Nat.reduceLeDiff, Nat.reduceEqDiff, Nat.reduceAdd, Nat.reduceSub, Nat.reduceMul, Int.reduceLT, Int.reduceLE, Int.reduceEq, Int.reduceToNat, Int.reduceAdd, Int.reduceSub, Int.reduceNeg, List.reduceReplicate, List.replicate_zero, List.replicate_succ, ne_eq, List.flatMap_cons, List.flatMap_nil, List.length_replicate, List.length_append, Nat.le_refl, Nat.le_add_right, Nat.add_assoc, List.append_assoc, or_true, true_or, or_false, false_or, and_false, false_and, exists_eq_left, exists_eq_left', Option.some.injEq, DV.int.injEq, DV.bool.injEq, DV.sl.injEq, DV.own.injEq, DV.tup.injEq, List.cons.injEq, Ob.arr.injEq, Ob.box.injEq, Option.map_map, Int.toNat_natCast, Int.toNat_zero, Nat.reducePow, Int.toNat_one, Int.reduceMul, Nat.mul_one, Nat.zero_add, Nat.add_zero, Function.comp_apply, List.map_append, List.map_replicate, Int.cast_ofNat_Int, Nat.left_eq_add, Nat.add_eq_left, Nat.add_left_cancel_iff]
  have hi : isInts .u8 (.sl sz_p (intRows .u8 p) k_p) := isInts_mk hs_p hk_p
  have hkb : inK .u8 [b] := inK_u8 (by simp) (by simpa using hb_b)
  have hka : inK .u8 (p ++ [b]) := hk_p.append hkb (by simp; omega)
  have ht : List.take (p.length + 1) (p ++ [b]) = p ++ [b] := List.take_of_length_le (by simp)
  have hl : 0 < (p ++ [b]).length := by simp
  have hw : IntKind.i32.wrap b = b := wI32 (by omega) (by omega)
  have hz : (sz_p = 1 ∨ intRows .u8 p = []) := hs_p.imp id fun h => by simp [h, intRows]
  simp only [hi, hkb, hka, ht, hl, hw, hz, rstep, rstepB, true_and, show ((0 : Int) < p.length) = (0 < p.length) from by simp]
  generalize wholeF (p ++ [b]) = W
  generalize ubeg (p ++ [b]) = U
  generalize ubeg [b] = U1
  simp only [cnd_gen]
  grind [intRows_nil]
def F_rstep : List DV → Option FSpec
  | [a_p, .int .u8 b] => some ⟨isInts .u8 a_p ∧ (0 ≤ b ∧ b ≤ 255) ∧ (intsD a_p).length ≤ 1000000, fun n => (.tup [.sl 1 (intRows .u8 (rstep (intsD a_p) b).1) .any, .sl 1 (intRows .i32 (rstep (intsD a_p) b).2) .any], [])⟩
  | _ => none
theorem F_rstep_1 (a_p : DV) (b : Int) : F_rstep [a_p, .int .u8 b] = some ⟨isInts .u8 a_p ∧ (0 ≤ b ∧ b ≤ 255) ∧ (intsD a_p).length ≤ 1000000, fun n => (.tup [.sl 1 (intRows .u8 (rstep (intsD a_p) b).1) .any, .sl 1 (intRows .i32 (rstep (intsD a_p) b).2) .any], [])⟩ := nrfl _
theorem rstep_ok (args : List DV) (s : FSpec) (hs : F_rstep args = some s) (hp : s.pre) : PCalls PG 18 args fun n r os => r = (s.res n).1 ∧ os = (s.res n).2 := by
  unfold F_rstep at hs
  split at hs
  · rename_i a_p b
    obtain rfl := Option.some.inj hs
    obtain ⟨hi_p, hb_b, hp⟩ := hp
    obtain ⟨s0_p, k0_p, h1_p, h2_p, h3_p⟩ := isInts_inv hi_p
    have this := rstep_P (k_p := k0_p) h2_p h3_p hb_b hp
    rw [← h1_p] at this
    exact this
  · cases hs

def T12 : FL := (18, F_rstep) :: T11
theorem T12_ok : FOk PG (tab T12) := FOk.cons (T11_ok) rstep_ok
theorem T12_at_rstep (args : List DV) : tab T12 18 args = (F_rstep args).map .o := nrfl _
theorem T12_at_whole (args : List DV) : tab T12 37 args = (F_whole args).map .o := nrfl _
theorem T12_at_put (args : List DV) : tab T12 21 args = (F_put args).map .o := nrfl _
theorem T12_at_uall (args : List DV) : tab T12 14 args = (F_uall args).map .o := nrfl _
theorem T12_at_rbegins (args : List DV) : tab T12 20 args = (F_rbegins args).map .o := nrfl _
theorem T12_at_appRune (args : List DV) : tab T12 39 args = (F_appRune args).map .o := nrfl _
theorem T12_at_appNon (args : List DV) : tab T12 50 args = (F_appNon args).map .o := nrfl _
theorem T12_at_step (args : List DV) : tab T12 17 args = (F_step args).map .o := nrfl _
theorem T12_at_ubegins (args : List DV) : tab T12 19 args = (F_ubegins args).map .o := nrfl _
theorem T12_at_decode (args : List DV) : tab T12 36 args = (F_decode args).map .o := nrfl _
theorem T12_at_full (args : List DV) : tab T12 38 args = (F_full args).map .o := nrfl _
theorem T12_at_clone (args : List DV) : tab T12 35 args = (F_clone args).map .o := nrfl _
theorem T12_at_slow (args : List DV) : tab T12 49 args = (F_slow args).map .o := nrfl _
theorem T12_at_may (args : List DV) : tab T12 24 args = (F_may args).map .o := nrfl _
theorem T12_at_runes (args : List DV) : tab T12 16 args = (F_runes args).map .o := nrfl _
theorem T12_b : type_of% (And.intro @T12_at_rstep <| And.intro @F_rstep_1 <| And.intro @T12_at_whole <| And.intro @F_whole_1 <| And.intro @T12_at_put <| And.intro @F_put_1 <| And.intro @T12_at_uall <| And.intro @F_uall_1 <| And.intro @T12_at_rbegins <| And.intro @F_rbegins_1 <| And.intro @T12_at_appRune <| And.intro @F_appRune_1 <| And.intro @T12_at_appNon <| And.intro @F_appNon_1 <| And.intro @T12_at_step <| And.intro @F_step_1 <| And.intro @T12_at_ubegins <| And.intro @F_ubegins_1 <| And.intro @T12_at_decode <| And.intro @F_decode_1 <| And.intro @T12_at_full <| And.intro @F_full_1 <| And.intro @T12_at_clone <| And.intro @F_clone_nil <| And.intro @F_clone_non <| And.intro @T12_at_slow <| And.intro @F_slow_1 <| And.intro @T12_at_may <| And.intro @F_may_1 <| And.intro @T12_at_runes <| @F_runes_1) := And.intro @T12_at_rstep <| And.intro @F_rstep_1 <| And.intro @T12_at_whole <| And.intro @F_whole_1 <| And.intro @T12_at_put <| And.intro @F_put_1 <| And.intro @T12_at_uall <| And.intro @F_uall_1 <| And.intro @T12_at_rbegins <| And.intro @F_rbegins_1 <| And.intro @T12_at_appRune <| And.intro @F_appRune_1 <| And.intro @T12_at_appNon <| And.intro @F_appNon_1 <| And.intro @T12_at_step <| And.intro @F_step_1 <| And.intro @T12_at_ubegins <| And.intro @F_ubegins_1 <| And.intro @T12_at_decode <| And.intro @F_decode_1 <| And.intro @T12_at_full <| And.intro @F_full_1 <| And.intro @T12_at_clone <| And.intro @F_clone_nil <| And.intro @F_clone_non <| And.intro @T12_at_slow <| And.intro @F_slow_1 <| And.intro @T12_at_may <| And.intro @F_may_1 <| And.intro @T12_at_runes <| @F_runes_1

theorem rform_x {r : Int} (hr : -2147483648 ≤ r ∧ r ≤ 2147483647) (hm : may r = true) : 0 ≤ r ∧ r ≤ 1114111 ∧ (r < 55296 ∨ 57343 < r) := by
  simp only [may, Bool.and_eq_true, Bool.or_eq_true, decide_eq_true_eq] at hm
  omega
theorem rform_P {r : Int} (hb_r : -2147483648 ≤ r ∧ r ≤ 2147483647)  :
    PCalls PG 22 [.int .i32 r] fun n RR OO => RR = ((.own n 0 (enc r).length, [some (.arr 1 (intRows .u8 (enc r)))]) : DV × Objs).1 ∧ OO = ((.own n 0 (enc r).length, [some (.arr 1 (intRows .u8 (enc r)))]) : DV × Objs).2 := by
  refine PCalls.by_fn (res := fun n => (.own n 0 (enc r).length, [some (.arr 1 (intRows .u8 (enc r)))])) T12_ok rc_rform_ok (by simp [rc_rform]) fun n => ?_
  unfold rc_rform
  dsimp only
  simp -implicitDefEqProofs only [T12_b, and7_u8, and15_u8, and31_u8, and63_u8, vcA1, vcA2, vcA3, vcA4, vcA5, vcA6, vcA7, ↓vcP1, ↓vcP2, ↓reduceIte, Option.map_some, Option.map_none, Option.bind_some, Option.bind_none, if_true, if_false, reduceCtorEq, beq_true, beq_false, Bool.not_true, Bool.not_false, BEq.rfl, Bool.true_beq, Bool.false_beq, and_true, true_and, and_self, decide_true, decide_false, List.length_cons, List.length_nil, List.all_cons, List.all_nil, Bool.and_true, Bool.and_self, List.getElem?_cons_zero, List.getElem?_cons_succ, List.set_cons_zero, List.set_cons_succ, List.nil_append, List.cons_append, List.append_nil, List.map_cons, List.map_nil, not_true_eq_false, not_false_eq_true, false_implies, true_implies, implies_true, List.take_succ_cons, List.take_zero, List.take_nil, List.drop_succ_cons, List.drop_zero, List.drop_nil, Nat.reduceLT, Nat.reduceLeDiff, Nat.reduceEqDiff, Nat.reduceAdd, Nat.reduceSub, Nat.reduceMul, Int.reduceLT, Int.reduceLE, Int.reduceEq, Int.reduceToNat, Int.reduceAdd, Int.reduceSub, Int.reduceNeg, List.reduceReplicate, List.replicate_zero, List.replicate_succ, ne_eq, List.flatMap_cons, List.flatMap_nil, List.length_replicate, List.length_append, Nat.le_refl, Nat.le_add_right, Nat.add_assoc, List.append_assoc, or_true, true_or, or_false, false_or, and_false, false_and, exists_eq_left, exists_eq_left', Option.some.injEq, DV.int.injEq, DV.bool.injEq, DV.sl.injEq, DV.own.injEq, DV.tup.injEq, List.cons.injEq, Ob.arr.injEq, Ob.box.injEq, Option.map_map, Int.toNat_natCast, Int.toNat_zero, Nat.reducePow, Int.toNat_one, Int.reduceMul, Nat.mul_one, Nat.zero_add, Nat.add_zero, Function.comp_apply, List.map_append, List.map_replicate, Int.cast_ofNat_Int, Nat.left_eq_add, Nat.add_eq_left, Nat.add_left_cancel_iff]
  have e6 : ∀ a : Int, a.fdiv (2 ^ min 6 IntKind.i32.bits) = a / 64 := fun a => Int.fdiv_eq_ediv_of_nonneg a (by decide)
  have e12 : ∀ a : Int, a.fdiv (2 ^ min 12 IntKind.i32.bits) = a / 4096 := fun a => Int.fdiv_eq_ediv_of_nonneg a (by decide)
  have e18 : ∀ a : Int, a.fdiv (2 ^ min 18 IntKind.i32.bits) = a / 262144 := fun a => Int.fdiv_eq_ediv_of_nonneg a (by decide)
  have a63 : ∀ a : Int, IntKind.i32.wrap (BitVec.ofInt IntKind.i32.bits a &&& BitVec.ofInt IntKind.i32.bits 63).toNat = a % 64 := fun a => and_mask .i32 6 a (by decide)
  have o1 : ∀ x : Int, IntKind.i32.wrap (BitVec.ofInt IntKind.i32.bits 128 ||| BitVec.ofInt IntKind.i32.bits (x % 64)).toNat = 128 + x % 64 := fun x => or_i32 6 128 _ (by decide) (by decide) (by omega) (by omega) (by omega)
  have o2 : ∀ x : Int, 0 ≤ x → x < 32 → IntKind.i32.wrap (BitVec.ofInt IntKind.i32.bits 192 ||| BitVec.ofInt IntKind.i32.bits x).toNat = 192 + x := fun x a b => or_i32 5 192 _ (by decide) (by decide) (by omega) (by omega) (by omega)
  have o3 : ∀ x : Int, 0 ≤ x → x < 16 → IntKind.i32.wrap (BitVec.ofInt IntKind.i32.bits 224 ||| BitVec.ofInt IntKind.i32.bits x).toNat = 224 + x := fun x a b => or_i32 4 224 _ (by decide) (by decide) (by omega) (by omega) (by omega)
  have o4 : ∀ x : Int, 0 ≤ x → x < 8 → IntKind.i32.wrap (BitVec.ofInt IntKind.i32.bits 240 ||| BitVec.ofInt IntKind.i32.bits x).toNat = 240 + x := fun x a b => or_i32 3 240 _ (by decide) (by decide) (by omega) (by omega) (by omega)
  have w8 : ∀ x : Int, 0 ≤ x → x < 256 → IntKind.u8.wrap x = x := fun x a b => wU8 a (by omega)
  simp only [e6, e12, e18, a63, o1]
  rw [o3 (65533 / 4096) (by decide) (by decide)]
  cases hm : may r
  · have he : enc r = [239, 191, 189] := by
      have h1 : ¬ (0 ≤ r ∧ r ≤ 1114111 ∧ (r < 55296 ∨ 57343 < r)) := fun h => by
        have : may r = true := by simp [may]; omega
        rw [hm] at this; cases this
      unfold enc
      rw [if_neg (by omega), if_neg (by omega), if_neg (by omega), if_neg (by omega)]
    rw [cnd_false, he]
    exact ⟨rfl, rfl⟩
  · have hx := rform_x hb_r hm
    rw [cnd_true]
    refine ⟨fun h => ?_, fun h => ⟨fun h2 => ?_, fun h2 => ⟨fun h3 => ?_, fun h3 => ?_⟩⟩⟩
    · have he : enc r = [r] := by unfold enc; rw [if_pos (by omega)]
      rw [he, w8 _ (by omega) (by omega)]; exact ⟨rfl, rfl⟩
    · have he : enc r = [192 + r / 64, 128 + r % 64] := by unfold enc; rw [if_neg (by omega), if_pos (by omega)]
      rw [he, o2 _ (by omega) (by omega), w8 _ (by omega) (by omega), w8 _ (by omega) (by omega)]; exact ⟨rfl, rfl⟩
    · have he : enc r = [224 + r / 4096, 128 + r / 64 % 64, 128 + r % 64] := by unfold enc; rw [if_neg (by omega), if_neg (by omega), if_pos (by omega)]
      rw [he, o3 _ (by omega) (by omega), w8 _ (by omega) (by omega), w8 _ (by omega) (by omega), w8 _ (by omega) (by omega)]; exact ⟨rfl, rfl⟩
    · have he : enc r = [240 + r / 262144, 128 + r / 4096 % 64, 128 + r / 64 % 64, 128 + r % 64] := by unfold enc; rw [if_neg (by omega), if_neg (by omega), if_neg (by omega), if_pos (by omega)]
      rw [he, o4 _ (by omega) (by omega), w8 _ (by omega) (by omega), w8 _ (by omega) (by omega), w8 _ (by omega) (by omega), w8 _ (by omega) (by omega)]; exact ⟨rfl, rfl⟩
def F_rform : List DV → Option FSpec
  | [.int .i32 r] => some ⟨(-2147483648 ≤ r ∧ r ≤ 2147483647) ∧ True, fun n => (.own n 0 (enc r).length, [some (.arr 1 (intRows .u8 (enc r)))])⟩
  | _ => none
theorem F_rform_1 (r : Int) : F_rform [.int .i32 r] = some ⟨(-2147483648 ≤ r ∧ r ≤ 2147483647) ∧ True, fun n => (.own n 0 (enc r).length, [some (.arr 1 (intRows .u8 (enc r)))])⟩ := nrfl _
theorem rform_ok (args : List DV) (s : FSpec) (hs : F_rform args = some s) (hp : s.pre) : PCalls PG 22 args fun n r os => r = (s.res n).1 ∧ os = (s.res n).2 := by
  unfold F_rform at hs
  split at hs
  · rename_i r
    obtain rfl := Option.some.inj hs
    obtain ⟨hb_r, hp⟩ := hp
    have this := rform_P  hb_r 
    exact this
  · cases hs

/-! ### The document's functions come to the same as the program's -/
theorem getD_lt {l : List Int} (hk : inK .u8 l) {i : Nat} (hi : i < l.length) : 0 ≤ l.getD i 0 ∧ l.getD i 0 ≤ 255 := by
  rw [List.getD_eq_getElem?_getD, List.getElem?_eq_getElem hi]
  exact hk.u8 (List.getElem_mem hi)
theorem whole_dec1 {a : Int} (ha : 0 ≤ a ∧ a ≤ 255) : (wholeF [a]).2 = decide ((dec [a]).2 = (1 : Int) ∧ ((dec [a]).1 ≠ 65533 ∨ 1 < (dec [a]).2)) ∧ ((wholeF [a]).2 = true → (wholeF [a]).1 = (dec [a]).1) := by
  have : a = (a.toNat : Int) := by omega
  have h2 : a.toNat < 256 := by omega
  rw [this]
  generalize a.toNat = n at h2
  revert n
  decide +kernel
end Go.Proofs.YteemmpghpdaloaaDoor
end
section
/- Plain laws of runes and bytes. -/
set_option linter.unusedVariables false
set_option linter.unusedSimpArgs false
set_option maxRecDepth 10000
namespace Go.Proofs.YteemmpghpdaloaaDoor
open Go.RowKit
theorem byte_cases {p : Int → Prop} (h : ∀ n : Nat, n < 256 → p n) {a : Int} (ha : 0 ≤ a ∧ a ≤ 255) : p a := by
  have h1 : a = (a.toNat : Int) := by omega
  rw [h1]
  exact h _ (by omega)
theorem cls {a : Int} (h : 194 ≤ a ∧ a ≤ 244) : firstF a % 8 = rnum a ∧ accLo (firstF a / 16) = rlo a ∧ accHi (firstF a / 16) = rhi a ∧ firstF a < 240 := by
  have : ∀ n : Nat, n < 256 → 194 ≤ (n : Int) ∧ (n : Int) ≤ 244 → firstF n % 8 = rnum n ∧ accLo (firstF n / 16) = rlo n ∧ accHi (firstF n / 16) = rhi n ∧ firstF n < 240 := by decide +kernel
  exact byte_cases (p := fun a => 194 ≤ a ∧ a ≤ 244 → firstF a % 8 = rnum a ∧ accLo (firstF a / 16) = rlo a ∧ accHi (firstF a / 16) = rhi a ∧ firstF a < 240) this (by omega) h
theorem cls0 {a : Int} (ha : 0 ≤ a ∧ a ≤ 255) (h : ¬ (194 ≤ a ∧ a ≤ 244)) : 240 ≤ firstF a ∧ (firstF a = 241 ↔ 128 ≤ a) := by
  have : ∀ n : Nat, n < 256 → ¬ (194 ≤ (n : Int) ∧ (n : Int) ≤ 244) → 240 ≤ firstF n ∧ (firstF n = 241 ↔ 128 ≤ (n : Int)) := by decide +kernel
  exact byte_cases (p := fun a => ¬ (194 ≤ a ∧ a ≤ 244) → 240 ≤ firstF a ∧ (firstF a = 241 ↔ 128 ≤ a)) this ha h
theorem rnums (a : Int) : (2 ≤ rnum a ∧ rnum a ≤ 4) ∧ (rnum a = 4 ↔ 240 ≤ a) ∧ (rnum a = 3 ↔ 224 ≤ a ∧ a < 240) ∧ (rnum a = 2 ↔ a < 224) := by
  unfold rnum
  refine ⟨?_, ?_, ?_, ?_⟩ <;> (split <;> (try split) <;> omega)
theorem rlohi (a : Int) : 128 ≤ rlo a ∧ rlo a ≤ 160 ∧ 143 ≤ rhi a ∧ rhi a ≤ 191 ∧ (a = 224 → rlo a = 160) ∧ (a = 240 → rlo a = 144) ∧ (a = 237 → rhi a = 159) ∧ (a = 244 → rhi a = 143) ∧ (a ≠ 224 → a ≠ 240 → rlo a = 128) ∧ (a ≠ 237 → a ≠ 244 → rhi a = 191) := by
  unfold rlo rhi
  refine ⟨?_, ?_, ?_, ?_, ?_, ?_, ?_, ?_, ?_, ?_⟩ <;> (repeat' split) <;> omega
theorem ubeg1 {a : Int} (ha : 0 ≤ a ∧ a ≤ 255) : ubeg [a] = decide (194 ≤ a ∧ a ≤ 244) := by
  have : ∀ n : Nat, n < 256 → ubeg [(n : Int)] = decide (194 ≤ (n : Int) ∧ (n : Int) ≤ 244) := by decide +kernel
  exact byte_cases (p := fun a => ubeg [a] = decide (194 ≤ a ∧ a ≤ 244)) this ha
theorem ubeg0 : ubeg [] = false := by decide
theorem ubeg4 {l : List Int} (h : 4 ≤ l.length) : ubeg l = false := by
  simp only [ubeg, decide_eq_false (show ¬ l.length < 4 by omega), Bool.and_false, Bool.false_and]
theorem ubeg2 {a b : Int} (ha : 0 ≤ a ∧ a ≤ 255) : ubeg [a, b] = decide (224 ≤ a ∧ a ≤ 244 ∧ rlo a ≤ b ∧ b ≤ rhi a) := by
  have hr := rnums a
  by_cases h : 194 ≤ a ∧ a ≤ 244
  · obtain ⟨h1, h2, h3, h4⟩ := cls h
    simp only [ubeg, full, List.length_cons, List.length_nil, List.getD_cons_zero, List.getD_cons_succ, h1, h2, h3]
    rw [Bool.eq_iff_iff]
    simp
    omega
  · obtain ⟨h1, h2⟩ := cls0 ha h
    by_cases h5 : 128 ≤ a
    · simp only [ubeg, full, List.length_cons, List.length_nil, List.getD_cons_zero, List.getD_cons_succ, h2.2 h5]
      rw [Bool.eq_iff_iff]
      simp
      omega
    · rw [Bool.eq_iff_iff]
      simp [ubeg]
      omega
theorem ubeg3 {a b c : Int} (ha : 0 ≤ a ∧ a ≤ 255) : ubeg [a, b, c] = decide (240 ≤ a ∧ a ≤ 244 ∧ rlo a ≤ b ∧ b ≤ rhi a ∧ 128 ≤ c ∧ c ≤ 191) := by
  have hr := rnums a
  by_cases h : 194 ≤ a ∧ a ≤ 244
  · obtain ⟨h1, h2, h3, h4⟩ := cls h
    simp only [ubeg, full, List.length_cons, List.length_nil, List.getD_cons_zero, List.getD_cons_succ, h1, h2, h3]
    rw [Bool.eq_iff_iff]
    simp
    omega
  · obtain ⟨h1, h2⟩ := cls0 ha h
    by_cases h5 : 128 ≤ a
    · simp only [ubeg, full, List.length_cons, List.length_nil, List.getD_cons_zero, List.getD_cons_succ, h2.2 h5]
      rw [Bool.eq_iff_iff]
      simp
      omega
    · rw [Bool.eq_iff_iff]
      simp [ubeg]
      omega
theorem dec1 {a : Int} (ha : 0 ≤ a ∧ a ≤ 255) : dec [a] = if a < 128 then (a, 1) else (65533, 1) := by
  by_cases h : 194 ≤ a ∧ a ≤ 244
  · obtain ⟨h1, h2, h3, h4⟩ := cls h
    have hr := rnums a
    simp only [dec, List.length_cons, List.length_nil, List.getD_cons_zero, List.getD_cons_succ, h1, h2, h3]
    rw [if_neg (by omega), if_neg (by omega), if_pos (by omega), if_neg (by omega)]
  · obtain ⟨h1, h2⟩ := cls0 ha h
    simp only [dec, List.length_cons, List.length_nil, List.getD_cons_zero]
    rw [if_neg (by omega), if_pos h1]
    split
    · rw [if_neg (by omega)]
    · rw [if_pos (by omega)]
theorem dec2 {a b : Int} (ha : 194 ≤ a ∧ a ≤ 244) : dec [a, b] = if a < 224 ∧ rlo a ≤ b ∧ b ≤ rhi a then (a % 32 * 64 + b % 64, 2) else (65533, 1) := by
  obtain ⟨h1, h2, h3, h4⟩ := cls ha
  have hr := rnums a
  simp only [dec, List.length_cons, List.length_nil, List.getD_cons_zero, List.getD_cons_succ, h1, h2, h3]
  rw [if_neg (by omega), if_neg (by omega)]
  by_cases h : a < 224
  · rw [if_neg (by omega)]
    by_cases h5 : rlo a ≤ b ∧ b ≤ rhi a
    · rw [if_neg (by omega), if_pos (by omega), if_pos ⟨h, h5⟩]
    · rw [if_pos (by omega), if_neg (by omega)]
  · rw [if_pos (by omega), if_neg (by omega)]
theorem dec3 {a b c : Int} (ha : 224 ≤ a ∧ a ≤ 244) : dec [a, b, c] = if a < 240 ∧ rlo a ≤ b ∧ b ≤ rhi a ∧ 128 ≤ c ∧ c ≤ 191 then (a % 16 * 4096 + b % 64 * 64 + c % 64, 3) else (65533, 1) := by
  obtain ⟨h1, h2, h3, h4⟩ := cls (a := a) (by omega)
  have hr := rnums a
  simp only [dec, List.length_cons, List.length_nil, List.getD_cons_zero, List.getD_cons_succ, h1, h2, h3]
  rw [if_neg (by omega), if_neg (by omega)]
  by_cases h : a < 240
  · rw [if_neg (by omega)]
    by_cases h5 : rlo a ≤ b ∧ b ≤ rhi a
    · rw [if_neg (by omega), if_neg (by omega)]
      by_cases h6 : 128 ≤ c ∧ c ≤ 191
      · rw [if_neg (by omega), if_pos (by omega), if_pos (by omega)]
      · rw [if_pos (by omega), if_neg (by omega)]
    · rw [if_pos (by omega), if_neg (by omega)]
  · rw [if_pos (by omega), if_neg (by omega)]
theorem dec4 {a b c d : Int} (ha : 240 ≤ a ∧ a ≤ 244) : dec [a, b, c, d] = if rlo a ≤ b ∧ b ≤ rhi a ∧ 128 ≤ c ∧ c ≤ 191 ∧ 128 ≤ d ∧ d ≤ 191 then (a % 8 * 262144 + b % 64 * 4096 + c % 64 * 64 + d % 64, 4)
    else (65533, 1) := by
  obtain ⟨h1, h2, h3, h4⟩ := cls (a := a) (by omega)
  have hr := rnums a
  simp only [dec, List.length_cons, List.length_nil, List.getD_cons_zero, List.getD_cons_succ, h1, h2, h3]
  rw [if_neg (by omega), if_neg (by omega), if_neg (by omega)]
  by_cases h5 : rlo a ≤ b ∧ b ≤ rhi a
  · rw [if_neg (by omega), if_neg (by omega)]
    by_cases h6 : 128 ≤ c ∧ c ≤ 191
    · rw [if_neg (by omega), if_neg (by omega)]
      by_cases h7 : 128 ≤ d ∧ d ≤ 191
      · rw [if_neg (by omega), if_pos (by omega)]
      · rw [if_pos (by omega), if_neg (by omega)]
    · rw [if_pos (by omega), if_neg (by omega)]
  · rw [if_pos (by omega), if_neg (by omega)]
/-- The same step, told in the open. -/
def one (b : Int) : List Int × List Int := if b < 128 then ([], [b]) else if 194 ≤ b ∧ b ≤ 244 then ([b], []) else ([], [65533])
theorem ustepA_one {b : Int} (hb : 0 ≤ b ∧ b ≤ 255) : ustepA [] b = one b := by
  unfold ustepA one
  rw [List.nil_append, dec1 hb, ubeg1 hb]
  by_cases h : b < 128
  · rw [if_pos h, if_pos h]
    simp
    omega
  · rw [if_neg h, if_neg h]
    simp
theorem rstepB_one {out : List Int} {b : Int} (hb : 0 ≤ b ∧ b ≤ 255) : rstepB out b = ((one b).1, out ++ (one b).2) := by
  unfold rstepB one
  rw [ubeg1 hb]
  split
  · rfl
  · simp only [decide_eq_true_eq]
    split <;> simp
def good (q : List Int) : Option Int :=
  if (dec q).2 = (q.length : Int) ∧ ((dec q).1 ≠ 65533 ∨ 1 < (dec q).2) then some (dec q).1 else none
theorem goOn_cons (r b : Int) (l : List Int) (hb : 0 ≤ b ∧ b ≤ 255) : goOn r (b :: l) = if 128 ≤ b ∧ b ≤ 191 then goOn (r * 64 + b % 64) l else none := by
  rw [goOn]
  by_cases h : 128 ≤ b ∧ b ≤ 191
  · rw [if_pos (by omega), if_pos h]
  · rw [if_neg (by omega), if_neg h]
theorem wholeF_2 {l : List Int} (h : 192 ≤ l.getD 0 0 ∧ l.getD 0 0 < 224) : wholeF l = if (l.length : Int) = 2 then match goOn (l.getD 0 0 % 32) (l.drop 1) with
    | some r => (r, decide (128 ≤ r) && may r)
    | none => (0, false) else (0, false) := by simp only [wholeF]; rw [if_pos h]; rfl
theorem wholeF_3 {l : List Int} (h : 224 ≤ l.getD 0 0 ∧ l.getD 0 0 < 240) : wholeF l = if (l.length : Int) = 3 then match goOn (l.getD 0 0 % 16) (l.drop 1) with
    | some r => (r, decide (2048 ≤ r) && may r)
    | none => (0, false) else (0, false) := by simp only [wholeF]; rw [if_neg (by omega), if_pos h]; rfl
theorem wholeF_4 {l : List Int} (h : 240 ≤ l.getD 0 0 ∧ l.getD 0 0 < 248) : wholeF l = if (l.length : Int) = 4 then match goOn (l.getD 0 0 % 8) (l.drop 1) with
    | some r => (r, decide (65536 ≤ r) && may r)
    | none => (0, false) else (0, false) := by simp only [wholeF]; rw [if_neg (by omega), if_neg (by omega), if_pos h]; rfl
theorem may_iff (r : Int) : may r = true ↔ 0 ≤ r ∧ r ≤ 1114111 ∧ (r < 55296 ∨ 57343 < r) := by simp [may]; omega
/-- A whole form's law. -/
def wlaw (q : List Int) : Prop := (wholeF q).2 = (good q).isSome ∧ ∀ r, good q = some r → (wholeF q).1 = r
theorem wlaw_none {q : List Int} (h1 : (wholeF q).2 = false) (h2 : good q = none) : wlaw q := by
  refine ⟨by rw [h1, h2]; rfl, fun r h => by rw [h2] at h; cases h⟩
theorem wlaw_some {q : List Int} {r : Int} (h1 : wholeF q = (r, true)) (h2 : good q = some r) : wlaw q := by
  refine ⟨by rw [h1, h2]; rfl, fun r' h => by rw [h2] at h; rw [h1]; exact Option.some.inj h⟩
theorem fin_false {n : Nat} {least r0 : Int} {l : List Int} (h : ∀ r, goOn r0 l = some r → ¬ (least ≤ r ∧ 0 ≤ r ∧ r ≤ 1114111 ∧ (r < 55296 ∨ 57343 < r))) : ((match goOn r0 l with
    | some r => (r, decide (least ≤ r) && may r)
    | none => (0, false)) : Int × Bool).2 = false := by
  split
  · rename_i r hr
    have := h r hr
    rw [← may_iff] at this
    simp only
    cases hm : may r
    · simp
    · rw [hm] at this; simp at this; simp; omega
  · rfl
theorem fin_true {least r0 r : Int} {l : List Int} (h : goOn r0 l = some r) (h2 : least ≤ r ∧ 0 ≤ r ∧ r ≤ 1114111 ∧ (r < 55296 ∨ 57343 < r)) : ((match goOn r0 l with
    | some r => (r, decide (least ≤ r) && may r)
    | none => (0, false)) : Int × Bool) = (r, true) := by
  rw [h]
  simp only
  rw [(may_iff r).2 h2.2, decide_eq_true h2.1]
  rfl
theorem wlaw2 {a b : Int} (ha : 194 ≤ a ∧ a ≤ 244) (hb : 0 ≤ b ∧ b ≤ 255) : wlaw [a, b] := by
  have hl := rlohi a
  have hd := dec2 (b := b) ha
  by_cases h : a < 224
  · have hw := wholeF_2 (l := [a, b]) (by simp; omega)
    simp only [List.length_cons, List.length_nil, List.getD_cons_zero, List.drop_succ_cons, List.drop_zero] at hw
    rw [if_pos (by omega)] at hw
    by_cases h5 : 128 ≤ b ∧ b ≤ 191
    · have hg : goOn (a % 32) [b] = some (a % 32 * 64 + b % 64) := by rw [goOn_cons _ _ _ hb, if_pos h5]; rfl
      refine wlaw_some (r := a % 32 * 64 + b % 64) (hw.trans (fin_true hg (by omega))) ?_
      rw [if_pos (by omega)] at hd
      unfold good
      rw [hd, if_pos (by simp)]
    · refine wlaw_none (by rw [hw]; exact fin_false (n := 0) fun r hr => by rw [goOn_cons _ _ _ hb, if_neg h5] at hr; cases hr) ?_
      rw [if_neg (by omega)] at hd
      unfold good
      rw [hd, if_neg (by simp)]
  · have hw : (wholeF [a, b]).2 = false := by
      by_cases h6 : a < 240
      · rw [wholeF_3 (l := [a, b]) (by simp; omega)]; rfl
      · rw [wholeF_4 (l := [a, b]) (by simp; omega)]; rfl
    refine wlaw_none hw ?_
    rw [if_neg (by omega)] at hd
    unfold good
    rw [hd, if_neg (by simp)]
theorem wlaw3 {a b c : Int} (ha : 224 ≤ a ∧ a ≤ 244) (hb : rlo a ≤ b ∧ b ≤ rhi a) (hc : 0 ≤ c ∧ c ≤ 255) : wlaw [a, b, c] := by
  have hl := rlohi a
  have hd := dec3 (b := b) (c := c) ha
  by_cases h : a < 240
  · have hw := wholeF_3 (l := [a, b, c]) (by simp; omega)
    simp only [List.length_cons, List.length_nil, List.getD_cons_zero, List.drop_succ_cons, List.drop_zero] at hw
    rw [if_pos (by omega)] at hw
    by_cases h5 : 128 ≤ c ∧ c ≤ 191
    · have hg : goOn (a % 16) [b, c] = some (a % 16 * 4096 + b % 64 * 64 + c % 64) := by
        rw [goOn_cons _ _ _ (by omega), if_pos (by omega), goOn_cons _ _ _ (by omega), if_pos h5, goOn]; congr 1; omega
      refine wlaw_some (hw.trans (fin_true hg (by omega))) ?_
      rw [if_pos (by omega)] at hd
      unfold good
      rw [hd, if_pos (by simp)]
    · refine wlaw_none (by rw [hw]; exact fin_false (n := 0) fun r hr => by rw [goOn_cons _ _ _ (by omega), if_pos (by omega), goOn_cons _ _ _ (by omega), if_neg h5] at hr; cases hr) ?_
      rw [if_neg (by omega)] at hd
      unfold good
      rw [hd, if_neg (by simp)]
  · have hw : (wholeF [a, b, c]).2 = false := by
      rw [wholeF_4 (l := [a, b, c]) (by simp; omega)]; rfl
    refine wlaw_none hw ?_
    rw [if_neg (by omega)] at hd
    unfold good
    rw [hd, if_neg (by simp)]
theorem wlaw4 {a b c d : Int} (ha : 240 ≤ a ∧ a ≤ 244) (hb : rlo a ≤ b ∧ b ≤ rhi a) (hc : 128 ≤ c ∧ c ≤ 191) (hd0 : 0 ≤ d ∧ d ≤ 255) : wlaw [a, b, c, d] := by
  have hl := rlohi a
  have hd := dec4 (b := b) (c := c) (d := d) ha
  have hw := wholeF_4 (l := [a, b, c, d]) (by simp; omega)
  simp only [List.length_cons, List.length_nil, List.getD_cons_zero, List.drop_succ_cons, List.drop_zero] at hw
  rw [if_pos (by omega)] at hw
  by_cases h5 : 128 ≤ d ∧ d ≤ 191
  · have hg : goOn (a % 8) [b, c, d] = some (a % 8 * 262144 + b % 64 * 4096 + c % 64 * 64 + d % 64) := by
      rw [goOn_cons _ _ _ (by omega), if_pos (by omega), goOn_cons _ _ _ (by omega), if_pos hc, goOn_cons _ _ _ hd0, if_pos h5, goOn]; congr 1; omega
    refine wlaw_some (hw.trans (fin_true hg (by omega))) ?_
    rw [if_pos (by omega)] at hd
    unfold good
    rw [hd, if_pos (by simp)]
  · refine wlaw_none (by rw [hw]; exact fin_false (n := 0) fun r hr => by rw [goOn_cons _ _ _ (by omega), if_pos (by omega), goOn_cons _ _ _ (by omega), if_pos hc, goOn_cons _ _ _ hd0, if_neg h5] at hr; cases hr) ?_
    rw [if_neg (by omega)] at hd
    unfold good
    rw [hd, if_neg (by simp)]
/-- What bytes that begin a rune are. -/
theorem ubeg_inv {p : List Int} (hk : inK .u8 p) (h : ubeg p = true) : (∃ a, p = [a] ∧ 194 ≤ a ∧ a ≤ 244) ∨ (∃ a b, p = [a, b] ∧ (224 ≤ a ∧ a ≤ 244) ∧ rlo a ≤ b ∧ b ≤ rhi a) ∨
    (∃ a b c, p = [a, b, c] ∧ (240 ≤ a ∧ a ≤ 244) ∧ (rlo a ≤ b ∧ b ≤ rhi a) ∧ 128 ≤ c ∧ c ≤ 191) := by
  match p, hk, h with
  | [], _, h => rw [ubeg0] at h; cases h
  | [a], hk, h =>
    have ha := hk.u8 (n := a) (by simp)
    rw [ubeg1 ha, decide_eq_true_eq] at h
    exact .inl ⟨a, rfl, h⟩
  | [a, b], hk, h =>
    have ha := hk.u8 (n := a) (by simp)
    rw [ubeg2 ha, decide_eq_true_eq] at h
    exact .inr (.inl ⟨a, b, rfl, by omega, by omega⟩)
  | [a, b, c], hk, h =>
    have ha := hk.u8 (n := a) (by simp)
    rw [ubeg3 ha, decide_eq_true_eq] at h
    exact .inr (.inr ⟨a, b, c, rfl, by omega, by omega, by omega⟩)
  | _ :: _ :: _ :: _ :: _, _, h => rw [ubeg4 (by simp)] at h; cases h
theorem wlaw_ubeg {p : List Int} {x : Int} (hk : inK .u8 p) (h : ubeg p = true) (hx : 0 ≤ x ∧ x ≤ 255) : wlaw (p ++ [x]) := by
  rcases ubeg_inv hk h with ⟨a, rfl, ha⟩ | ⟨a, b, rfl, ha, hb⟩ | ⟨a, b, c, rfl, ha, hb, hc⟩
  · exact wlaw2 ha hx
  · exact wlaw3 ha hb hx
  · exact wlaw4 ha hb hc hx
theorem ustep_eq {p : List Int} {b : Int} (hb : 0 ≤ b ∧ b ≤ 255) : ustep p b = if ubeg p = false then one b else match good (p ++ [b]) with
    | some r => ([], [r])
    | none => if ubeg (p ++ [b]) = true then (p ++ [b], []) else ((one b).1, 65533 :: (one b).2) := by
  unfold ustep good
  rw [ustepA_one hb]
  split
  · rfl
  · split
    · rfl
    · rfl
theorem rstep_eq {p : List Int} {b : Int} (hk : inK .u8 p) (hb : 0 ≤ b ∧ b ≤ 255) : rstep p b = ustep p b := by
  rw [ustep_eq hb]
  unfold rstep
  rw [rstepB_one hb, rstepB_one hb]
  cases h : ubeg p
  · rw [if_neg (by simp), if_pos rfl]
    rfl
  · have hl : 0 < p.length := by
      rcases ubeg_inv hk h with ⟨a, rfl, _⟩ | ⟨a, b, rfl, _⟩ | ⟨a, b, c, rfl, _⟩ <;> simp
    rw [if_pos ⟨hl, rfl⟩]
    obtain ⟨w1, w2⟩ := wlaw_ubeg hk h hb
    cases hg : good (p ++ [b]) with
    | none => rw [hg] at w1; simp [w1]
    | some r => rw [hg] at w1; simp [w1, w2 r hg]
end Go.Proofs.YteemmpghpdaloaaDoor
end
section
/- The document's 'All'; the statements' helps. -/
set_option linter.unusedVariables false
set_option linter.unusedSimpArgs false
set_option maxRecDepth 10000
namespace Go.Proofs.YteemmpghpdaloaaDoor
open Go.RowKit

noncomputable def rc_some3_l0 : RC := (.seq (.seq (.reg [⟨(some 7), (.mov (.t 5)), none, false⟩, ⟨(some 8), (.mov (.t 0)), none, false⟩, ⟨(some 9), (.len (.t 8)), none, false⟩, ⟨(some 10), (.bin .lss (.t 7) (.t 9)), none, false⟩] 0 [0, 3, 4, 5, 10]) (.cond (.t 10) .skip (.ext 0))) (.seq (.blk 1 (.reg [⟨(some 13), (.mov (.t 4)), none, false⟩, ⟨(some 14), (.mov (.t 3)), none, false⟩, ⟨(some 15), (.mov (.t 0)), none, false⟩, ⟨(some 16), (.mov (.t 5)), none, false⟩, ⟨(some 17), (.iaddr 1 (.t 15) (.t 16)), none, false⟩, ⟨(some 18), (.load false 1 (.t 17)), none, false⟩, ⟨(some 19), (.conv (.i2i .i64) (.t 18)), none, false⟩, ⟨(some 20), (.mov (.t 3)), none, false⟩, ⟨(some 21), (.len (.t 20)), none, false⟩, ⟨(some 22), (.bin .rem (.t 19) (.t 21)), none, false⟩, ⟨(some 23), (.iaddr 1 (.t 14) (.t 22)), none, false⟩, ⟨(some 24), (.load false 1 (.t 23)), none, false⟩, ⟨(some 25), (.append 1 1 (.t 13) (.t 24)), none, false⟩, ⟨(some 4), (.mov (.t 25)), none, false⟩] 0 [0, 3, 4, 5])) (.reg [⟨(some 11), (.mov (.t 5)), none, false⟩, ⟨(some 12), (.bin .add (.t 11) (.c (.int .i64 1))), none, false⟩, ⟨(some 5), (.mov (.t 12)), none, false⟩] 0 [0, 3, 4, 5])))
noncomputable def rc_some3 : RFn := ⟨1, 27, (.seq (.reg [⟨(some 2), (.mov (.c (.sl 0 [] .nil))), none, false⟩] 0 [0]) (.seq (.reg [⟨(some 6), (.mkrow 1 [(.str [])] 17 [(0, (.c (.str [(97)]))), (1, (.c (.str [(195), (169)]))), (2, (.c (.str [(230), (188), (162)]))), (3, (.c (.str [(240), (159), (152), (128)]))), (4, (.c (.str [(255)]))), (5, (.c (.str [(195)]))), (6, (.c (.str [(230)]))), (7, (.c (.str [(230), (188)]))), (8, (.c (.str [(240), (159)]))), (9, (.c (.str [(237), (160), (128)]))), (10, (.c (.str [(192), (128)]))), (11, (.c (.str [(244), (144)]))), (12, (.c (.str [(128)]))), (13, (.c (.str [(224), (159)]))), (14, (.c (.str [(240), (143)]))), (15, (.c (.str [(239), (191), (189)]))), (16, (.c (.str [(245)])))]), none, false⟩, ⟨(some 3), (.mov (.t 6)), none, true⟩] 0 [0, 3]) (.seq (.reg [⟨(some 4), (.mov (.c (.sl 0 [] .nil))), none, false⟩] 0 [0, 3, 4]) (.seq (.seq (.reg [⟨(some 5), (.mov (.c (.int .i64 0))), none, false⟩] 0 [0, 3, 4, 5]) (.blk 0 (.loop rc_some3_l0))) (.seq (.reg [⟨(some 26), (.mov (.t 4)), none, false⟩, ⟨(some 2), (.mov (.t 26)), none, true⟩] 0 [2]) .ret))))), [(.t 2)]⟩
theorem rc_some3_ok : compFn PG.P [⟨0, 0, [0], []⟩, ⟨1, 0, [0, 3], [3]⟩, ⟨2, 0, [0, 3, 4], []⟩, ⟨3, 0, [0, 3, 4, 5], []⟩, ⟨4, 0, [0, 3, 4, 5, 10], []⟩, ⟨5, 0, [0, 3, 4, 5], []⟩, ⟨6, 0, [0, 3, 4, 5], []⟩, ⟨7, 0, [2], [2]⟩] 13 = some rc_some3 := by kernel_rfl
noncomputable def rc_srune : RFn := ⟨1, 8, (.seq (.reg [⟨(some 2), (.mov (.c (.int .i32 0))), none, false⟩] 0 [0]) (.seq (.reg [⟨(some 3), (.mkrow 1 [(.int .i32 0)] 20 [(0, (.c (.int .i32 97))), (1, (.c (.int .i32 98))), (2, (.c (.int .i32 32))), (3, (.c (.int .i32 90))), (4, (.c (.int .i32 48))), (5, (.c (.int .i32 45))), (6, (.c (.int .i32 233))), (7, (.c (.int .i32 28450))), (8, (.c (.int .i32 23383))), (9, (.c (.int .i32 769))), (10, (.c (.int .i32 8203))), (11, (.c (.int .i32 1))), (12, (.c (.int .i32 27))), (13, (.c (.int .i32 127))), (14, (.c (.int .i32 46))), (15, (.c (.int .i32 99))), (16, (.c (.int .i32 128512))), (17, (.c (.int .i32 95))), (18, (.c (.int .i32 65533))), (19, (.c (.int .i32 100)))]), none, false⟩, ⟨(some 4), (.mov (.t 0)), none, false⟩, ⟨(some 5), (.bin .rem (.t 4) (.c (.int .u8 20))), none, false⟩, ⟨(some 6), (.iaddr 1 (.t 3) (.t 5)), none, false⟩, ⟨(some 7), (.load false 1 (.t 6)), none, false⟩, ⟨(some 2), (.mov (.t 7)), none, false⟩] 0 [2]) .ret)), [(.t 2)]⟩
theorem rc_srune_ok : compFn PG.P [⟨0, 0, [0], []⟩, ⟨1, 0, [2], []⟩] 40 = some rc_srune := by kernel_rfl
noncomputable def rc_srunes_l0 : RC := (.seq (.seq (.reg [⟨(some 5), (.mov (.t 4)), none, false⟩, ⟨(some 6), (.mov (.t 0)), none, false⟩, ⟨(some 7), (.len (.t 6)), none, false⟩, ⟨(some 8), (.bin .lss (.t 5) (.t 7)), none, false⟩] 0 [0, 3, 4, 8]) (.cond (.t 8) .skip (.ext 0))) (.seq (.blk 1 (.reg [⟨(some 11), (.mov (.t 3)), none, false⟩, ⟨(some 12), (.mov (.t 0)), none, false⟩, ⟨(some 13), (.mov (.t 4)), none, false⟩, ⟨(some 14), (.iaddr 1 (.t 12) (.t 13)), none, false⟩, ⟨(some 15), (.load false 1 (.t 14)), none, false⟩, ⟨(some 16), (.call 40 [(.t 15)]), none, false⟩, ⟨(some 17), (.mkrow 1 [(.int .i32 0)] 1 [(0, (.t 16))]), none, false⟩, ⟨(some 18), (.append 1 4 (.t 11) (.t 17)), none, false⟩, ⟨(some 3), (.mov (.t 18)), none, false⟩] 0 [0, 3, 4])) (.reg [⟨(some 9), (.mov (.t 4)), none, false⟩, ⟨(some 10), (.bin .add (.t 9) (.c (.int .i64 1))), none, false⟩, ⟨(some 4), (.mov (.t 10)), none, false⟩] 0 [0, 3, 4])))
noncomputable def rc_srunes : RFn := ⟨1, 20, (.seq (.reg [⟨(some 2), (.mov (.c (.sl 0 [] .nil))), none, false⟩] 0 [0]) (.seq (.reg [⟨(some 3), (.mov (.c (.sl 0 [] .nil))), none, false⟩] 0 [0, 3]) (.seq (.seq (.reg [⟨(some 4), (.mov (.c (.int .i64 0))), none, false⟩] 0 [0, 3, 4]) (.blk 0 (.loop rc_srunes_l0))) (.seq (.reg [⟨(some 19), (.mov (.t 3)), none, false⟩, ⟨(some 2), (.mov (.t 19)), none, true⟩] 0 [2]) .ret)))), [(.t 2)]⟩
theorem rc_srunes_ok : compFn PG.P [⟨0, 0, [0], []⟩, ⟨1, 0, [0, 3], []⟩, ⟨2, 0, [0, 3, 4], []⟩, ⟨3, 0, [0, 3, 4, 8], []⟩, ⟨4, 0, [0, 3, 4], []⟩, ⟨5, 0, [0, 3, 4], []⟩, ⟨6, 0, [2], [2]⟩] 23 = some rc_srunes := by kernel_rfl
noncomputable def rc_known3 : RFn := ⟨0, 76, (.seq (.reg [⟨(some 0), (.mov (.c (.bool false))), none, false⟩] 0 []) (.seq (.reg [⟨(some 8), (.call 17 [(.c (.sl 0 [] .nil)), (.c (.int .u8 195))]), none, false⟩, ⟨(some 7), (.mov (.t 8)), none, false⟩, ⟨(some 9), (.ext (.t 7) 0), none, false⟩, ⟨(some 10), (.ext (.t 7) 1), none, false⟩, ⟨(some 1), (.mov (.t 9)), none, false⟩, ⟨(some 2), (.mov (.t 10)), none, false⟩] 0 [1, 2]) (.seq (.reg [⟨(some 12), (.mov (.t 1)), none, false⟩, ⟨(some 13), (.call 17 [(.t 12), (.c (.int .u8 169))]), none, false⟩, ⟨(some 11), (.mov (.t 13)), none, false⟩, ⟨(some 14), (.ext (.t 11) 0), none, false⟩, ⟨(some 15), (.ext (.t 11) 1), none, false⟩, ⟨(some 3), (.mov (.t 14)), none, false⟩, ⟨(some 4), (.mov (.t 15)), none, false⟩] 0 [1, 2, 3, 4]) (.seq (.reg [⟨(some 17), (.mkrow 1 [(.int .u8 0)] 5 [(0, (.c (.int .u8 97))), (1, (.c (.int .u8 255))), (2, (.c (.int .u8 195))), (3, (.c (.int .u8 169))), (4, (.c (.int .u8 230)))]), none, false⟩, ⟨(some 18), (.conv .lit (.t 17)), none, true⟩, ⟨(some 19), (.call 14 [(.t 18)]), none, false⟩, ⟨(some 16), (.mov (.t 19)), none, false⟩, ⟨(some 20), (.ext (.t 16) 0), none, false⟩, ⟨(some 21), (.ext (.t 16) 1), none, false⟩, ⟨(some 5), (.mov (.t 20)), none, false⟩, ⟨(some 6), (.mov (.t 21)), none, false⟩] 0 [1, 2, 3, 4, 5, 6]) (.seq (.reg [⟨(some 22), (.mov (.t 1)), none, false⟩, ⟨(some 23), (.len (.t 22)), none, false⟩, ⟨(some 24), (.bin .eql (.t 23) (.c (.int .i64 1))), none, false⟩, ⟨(some 25), (.mov (.t 24)), none, false⟩, ⟨(some 26), (.mov (.t 2)), (some (25, true)), false⟩, ⟨(some 27), (.len (.t 26)), (some (25, true)), false⟩, ⟨(some 28), (.bin .eql (.t 27) (.c (.int .i64 0))), (some (25, true)), false⟩, ⟨(some 29), (.pick (.t 25) (.t 28) (.c (.bool false))), none, false⟩, ⟨(some 30), (.mov (.t 29)), none, false⟩, ⟨(some 31), (.mov (.t 3)), (some (30, true)), false⟩, ⟨(some 32), (.len (.t 31)), (some (30, true)), false⟩, ⟨(some 33), (.bin .eql (.t 32) (.c (.int .i64 0))), (some (30, true)), false⟩, ⟨(some 34), (.pick (.t 30) (.t 33) (.c (.bool false))), none, false⟩, ⟨(some 35), (.mov (.t 34)), none, false⟩, ⟨(some 36), (.mov (.t 4)), (some (35, true)), false⟩, ⟨(some 37), (.len (.t 36)), (some (35, true)), false⟩, ⟨(some 38), (.bin .eql (.t 37) (.c (.int .i64 1))), (some (35, true)), false⟩, ⟨(some 39), (.pick (.t 35) (.t 38) (.c (.bool false))), none, false⟩, ⟨(some 40), (.mov (.t 39)), none, false⟩, ⟨(some 41), (.mov (.t 4)), (some (40, true)), false⟩, ⟨(some 42), (.iaddr 1 (.t 41) (.c (.int .i64 0))), (some (40, true)), false⟩, ⟨(some 43), (.load false 1 (.t 42)), (some (40, true)), false⟩, ⟨(some 44), (.bin .eql (.t 43) (.c (.int .i32 233))), (some (40, true)), false⟩, ⟨(some 45), (.pick (.t 40) (.t 44) (.c (.bool false))), none, false⟩, ⟨(some 46), (.mov (.t 45)), none, false⟩, ⟨(some 47), (.mov (.t 5)), (some (46, true)), false⟩, ⟨(some 48), (.len (.t 47)), (some (46, true)), false⟩, ⟨(some 49), (.bin .eql (.t 48) (.c (.int .i64 3))), (some (46, true)), false⟩, ⟨(some 50), (.pick (.t 46) (.t 49) (.c (.bool false))), none, false⟩, ⟨(some 51), (.mov (.t 50)), none, false⟩, ⟨(some 52), (.mov (.t 5)), (some (51, true)), false⟩, ⟨(some 53), (.iaddr 1 (.t 52) (.c (.int .i64 1))), (some (51, true)), false⟩, ⟨(some 54), (.load false 1 (.t 53)), (some (51, true)), false⟩, ⟨(some 55), (.bin .eql (.t 54) (.c (.int .i32 65533))), (some (51, true)), false⟩, ⟨(some 56), (.pick (.t 51) (.t 55) (.c (.bool false))), none, false⟩, ⟨(some 57), (.mov (.t 56)), none, false⟩, ⟨(some 58), (.mov (.t 6)), (some (57, true)), false⟩, ⟨(some 59), (.len (.t 58)), (some (57, true)), false⟩, ⟨(some 60), (.bin .eql (.t 59) (.c (.int .i64 1))), (some (57, true)), false⟩, ⟨(some 61), (.pick (.t 57) (.t 60) (.c (.bool false))), none, false⟩, ⟨(some 62), (.mov (.t 61)), none, false⟩, ⟨(some 63), (.call 21 [(.c (.int .i32 28450))]), (some (62, true)), false⟩, ⟨(some 64), (.conv .b2s (.t 63)), (some (62, true)), false⟩, ⟨(some 65), (.bin .eql (.t 64) (.c (.str [(230), (188), (162)]))), (some (62, true)), false⟩, ⟨(some 66), (.pick (.t 62) (.t 65) (.c (.bool false))), none, false⟩, ⟨(some 67), (.mov (.t 66)), none, false⟩, ⟨(some 68), (.mkrow 1 [(.int .u8 0)] 1 [(0, (.c (.int .u8 230)))]), (some (67, true)), true⟩, ⟨(some 69), (.call 19 [(.t 68)]), (some (67, true)), false⟩, ⟨(some 70), (.pick (.t 67) (.t 69) (.c (.bool false))), none, false⟩, ⟨(some 71), (.mov (.t 70)), none, false⟩, ⟨(some 72), (.mkrow 1 [(.int .u8 0)] 1 [(0, (.c (.int .u8 192)))]), (some (71, true)), true⟩, ⟨(some 73), (.call 19 [(.t 72)]), (some (71, true)), false⟩, ⟨(some 74), (.un .not (.t 73)), (some (71, true)), false⟩, ⟨(some 75), (.pick (.t 71) (.t 74) (.c (.bool false))), none, false⟩, ⟨(some 0), (.mov (.t 75)), none, false⟩] 0 [0]) .ret))))), [(.t 0)]⟩
theorem rc_known3_ok : compFn PG.P [⟨0, 0, [], []⟩, ⟨1, 0, [1, 2], []⟩, ⟨2, 0, [1, 2, 3, 4], []⟩, ⟨3, 0, [1, 2, 3, 4, 5, 6], [18]⟩, ⟨4, 0, [0], [68, 72]⟩] 12 = some rc_known3 := by kernel_rfl

def T13 : FL := (22, F_rform) :: T12
theorem T13_ok : FOk PG (tab T13) := FOk.cons (T12_ok) rform_ok
theorem T13_at_rform (args : List DV) : tab T13 22 args = (F_rform args).map .o := nrfl _
theorem T13_at_rstep (args : List DV) : tab T13 18 args = (F_rstep args).map .o := nrfl _
theorem T13_at_whole (args : List DV) : tab T13 37 args = (F_whole args).map .o := nrfl _
theorem T13_at_put (args : List DV) : tab T13 21 args = (F_put args).map .o := nrfl _
theorem T13_at_uall (args : List DV) : tab T13 14 args = (F_uall args).map .o := nrfl _
theorem T13_at_rbegins (args : List DV) : tab T13 20 args = (F_rbegins args).map .o := nrfl _
theorem T13_at_appRune (args : List DV) : tab T13 39 args = (F_appRune args).map .o := nrfl _
theorem T13_at_appNon (args : List DV) : tab T13 50 args = (F_appNon args).map .o := nrfl _
theorem T13_at_step (args : List DV) : tab T13 17 args = (F_step args).map .o := nrfl _
theorem T13_at_ubegins (args : List DV) : tab T13 19 args = (F_ubegins args).map .o := nrfl _
theorem T13_at_decode (args : List DV) : tab T13 36 args = (F_decode args).map .o := nrfl _
theorem T13_at_full (args : List DV) : tab T13 38 args = (F_full args).map .o := nrfl _
theorem T13_at_clone (args : List DV) : tab T13 35 args = (F_clone args).map .o := nrfl _
theorem T13_at_slow (args : List DV) : tab T13 49 args = (F_slow args).map .o := nrfl _
theorem T13_at_may (args : List DV) : tab T13 24 args = (F_may args).map .o := nrfl _
theorem T13_at_runes (args : List DV) : tab T13 16 args = (F_runes args).map .o := nrfl _
theorem T13_b : type_of% (And.intro @T13_at_rform <| And.intro @F_rform_1 <| And.intro @T13_at_rstep <| And.intro @F_rstep_1 <| And.intro @T13_at_whole <| And.intro @F_whole_1 <| And.intro @T13_at_put <| And.intro @F_put_1 <| And.intro @T13_at_uall <| And.intro @F_uall_1 <| And.intro @T13_at_rbegins <| And.intro @F_rbegins_1 <| And.intro @T13_at_appRune <| And.intro @F_appRune_1 <| And.intro @T13_at_appNon <| And.intro @F_appNon_1 <| And.intro @T13_at_step <| And.intro @F_step_1 <| And.intro @T13_at_ubegins <| And.intro @F_ubegins_1 <| And.intro @T13_at_decode <| And.intro @F_decode_1 <| And.intro @T13_at_full <| And.intro @F_full_1 <| And.intro @T13_at_clone <| And.intro @F_clone_nil <| And.intro @F_clone_non <| And.intro @T13_at_slow <| And.intro @F_slow_1 <| And.intro @T13_at_may <| And.intro @F_may_1 <| And.intro @T13_at_runes <| @F_runes_1) := And.intro @T13_at_rform <| And.intro @F_rform_1 <| And.intro @T13_at_rstep <| And.intro @F_rstep_1 <| And.intro @T13_at_whole <| And.intro @F_whole_1 <| And.intro @T13_at_put <| And.intro @F_put_1 <| And.intro @T13_at_uall <| And.intro @F_uall_1 <| And.intro @T13_at_rbegins <| And.intro @F_rbegins_1 <| And.intro @T13_at_appRune <| And.intro @F_appRune_1 <| And.intro @T13_at_appNon <| And.intro @F_appNon_1 <| And.intro @T13_at_step <| And.intro @F_step_1 <| And.intro @T13_at_ubegins <| And.intro @F_ubegins_1 <| And.intro @T13_at_decode <| And.intro @F_decode_1 <| And.intro @T13_at_full <| And.intro @F_full_1 <| And.intro @T13_at_clone <| And.intro @F_clone_nil <| And.intro @F_clone_non <| And.intro @T13_at_slow <| And.intro @F_slow_1 <| And.intro @T13_at_may <| And.intro @F_may_1 <| And.intro @T13_at_runes <| @F_runes_1

theorem rall_P {sz_l : Nat} {k_l : SK} {l : List Int} (hs_l : sz_l = 1 ∨ l = []) (hk_l : inK .u8 l) (hp : l.length ≤ 10000000) :
    PCalls PG 15 [.sl sz_l (intRows .u8 l) k_l] fun n RR OO => RR = ((.tup [.sl 1 (intRows .i32 (uallF l).1) .any, .sl 1 (intRows .u8 (uallF l).2) .any], []) : DV × Objs).1 ∧ OO = ((.tup [.sl 1 (intRows .i32 (uallF l).1) .any, .sl 1 (intRows .u8 (uallF l).2) .any], []) : DV × Objs).2 := by
  refine PCalls.by_fn (res := fun n => (.tup [.sl 1 (intRows .i32 (uallF l).1) .any, .sl 1 (intRows .u8 (uallF l).2) .any], [])) T13_ok rc_rall_ok (by simp [rc_rall]) fun n => ?_
  unfold rc_rall
  dsimp only
  simp -implicitDefEqProofs only [T13_b, vcA1, vcA2, vcA3, vcA4, vcA5, vcA6, vcA7, ↓vcP1, ↓vcP2, ↓reduceIte, Option.map_some, Option.map_none, Option.bind_some, Option.bind_none, if_true, if_false, reduceCtorEq, beq_true, beq_false, Bool.not_true, Bool.not_false, BEq.rfl, Bool.true_beq, Bool.false_beq, and_true, true_and, and_self, decide_true, decide_false, List.length_cons, List.length_nil, List.all_cons, List.all_nil, Bool.and_true, Bool.and_self, List.getElem?_cons_zero, List.getElem?_cons_succ, List.set_cons_zero, List.set_cons_succ, List.nil_append, List.cons_append, List.append_nil, List.map_cons, List.map_nil, not_true_eq_false, not_false_eq_true, false_implies, true_implies, implies_true, List.take_succ_cons, List.take_zero, List.take_nil, List.drop_succ_cons, List.drop_zero, List.drop_nil, Nat.reduceLT, Nat.reduceLeDiff, Nat.reduceEqDiff, Nat.reduceAdd, Nat.reduceSub, Nat.reduceMul, Int.reduceLT, Int.reduceLE, Int.reduceEq, Int.reduceToNat, Int.reduceAdd, Int.reduceSub, Int.reduceNeg, List.reduceReplicate, List.replicate_zero, List.replicate_succ, ne_eq, List.flatMap_cons, List.flatMap_nil, List.length_replicate, List.length_append, Nat.le_refl, Nat.le_add_right, Nat.add_assoc, List.append_assoc, or_true, true_or, or_false, false_or, and_false, false_and, exists_eq_left, exists_eq_left', Option.some.injEq, DV.int.injEq, DV.bool.injEq, DV.sl.injEq, DV.own.injEq, DV.tup.injEq, List.cons.injEq, Ob.arr.injEq, Ob.box.injEq, Option.map_map, Int.toNat_natCast, Int.toNat_zero, Nat.reducePow, Int.toNat_one, Int.reduceMul, Nat.mul_one, Nat.zero_add, Nat.add_zero, Function.comp_apply, List.map_append, List.map_replicate, Int.cast_ofNat_Int, Nat.left_eq_add, Nat.add_eq_left, Nat.add_left_cancel_iff]
  refine LoopWp.own 4 1 rfl (.inl rfl) ?_
  refine LoopWp.invR T13_ok (S := fun m (i : Nat) => ⟨[(0, .sl sz_l (intRows .u8 l) k_l), (4, .own m 0 (uallF (l.take i)).1.length), (5, .sl 1 (intRows .u8 (uallF (l.take i)).2) .any), (6, .int .i64 i)],
        List.replicate m none ++ [some (.arr 1 (intRows .i32 (uallF (l.take i)).1))]⟩) (I := fun i => i ≤ l.length) (μ := fun i => l.length - i) n 0 (by omega) ?_ ?_
  · simp -implicitDefEqProofs only [List.take_zero, vcA1, vcA2, vcA3, vcA4, vcA5, vcA6, vcA7, ↓vcP1, ↓vcP2, ↓reduceIte, Option.map_some, Option.map_none, Option.bind_some, Option.bind_none, if_true, if_false, reduceCtorEq, beq_true, beq_false, Bool.not_true, Bool.not_false, BEq.rfl, Bool.true_beq, Bool.false_beq, and_true, true_and, and_self, decide_true, decide_false, List.length_cons, List.length_nil, List.all_cons, List.all_nil, Bool.and_true, Bool.and_self, List.getElem?_cons_zero, List.getElem?_cons_succ, List.set_cons_zero, List.set_cons_succ, List.nil_append, List.cons_append, List.append_nil, List.map_cons, List.map_nil, not_true_eq_false, not_false_eq_true, false_implies, true_implies, implies_true, List.take_succ_cons, List.take_zero, List.take_nil, List.drop_succ_cons, List.drop_zero, List.drop_nil, Nat.reduceLT, Nat.reduceLeDiff, Nat.reduceEqDiff, Nat.reduceAdd, Nat.reduceSub, Nat.reduceMul, Int.reduceLT, Int.reduceLE, Int.reduceEq, Int.reduceToNat, Int.reduceAdd, Int.reduceSub, Int.reduceNeg, List.reduceReplicate, List.replicate_zero, List.replicate_succ, ne_eq, List.flatMap_cons, List.flatMap_nil, List.length_replicate, List.length_append, Nat.le_refl, Nat.le_add_right, Nat.add_assoc, List.append_assoc, or_true, true_or, or_false, false_or, and_false, false_and, exists_eq_left, exists_eq_left', Option.some.injEq, DV.int.injEq, DV.bool.injEq, DV.sl.injEq, DV.own.injEq, DV.tup.injEq, List.cons.injEq, Ob.arr.injEq, Ob.box.injEq, Option.map_map, Int.toNat_natCast, Int.toNat_zero, Nat.reducePow, Int.toNat_one, Int.reduceMul, Nat.mul_one, Nat.zero_add, Nat.add_zero, Function.comp_apply, List.map_append, List.map_replicate, Int.cast_ofNat_Int, Nat.left_eq_add, Nat.add_eq_left, Nat.add_left_cancel_iff]
    exact ⟨⟨rfl, rfl⟩, rfl⟩
  · intro m i hm hi
    unfold rc_rall_l0
    simp -implicitDefEqProofs only [T13_b, vcA1, vcA2, vcA3, vcA4, vcA5, vcA6, vcA7, ↓vcP1, ↓vcP2, ↓reduceIte, Option.map_some, Option.map_none, Option.bind_some, Option.bind_none, if_true, if_false, reduceCtorEq, beq_true, beq_false, Bool.not_true, Bool.not_false, BEq.rfl, Bool.true_beq, Bool.false_beq, and_true, true_and, and_self, decide_true, decide_false, List.length_cons, List.length_nil, List.all_cons, List.all_nil, Bool.and_true, Bool.and_self, List.getElem?_cons_zero, List.getElem?_cons_succ, List.set_cons_zero, List.set_cons_succ, List.nil_append, List.cons_append, List.append_nil, List.map_cons, List.map_nil, not_true_eq_false, not_false_eq_true, false_implies, true_implies, implies_true, List.take_succ_cons, List.take_zero, List.take_nil, List.drop_succ_cons, List.drop_zero, List.drop_nil, Nat.reduceLT, Nat.reduceLeDiff, Nat.reduceEqDiff, Nat.reduceAdd, Nat.reduceSub, Nat.reduceMul, Int.reduceLT, Int.reduceLE, Int.reduceEq, Int.reduceToNat, Int.reduceAdd, Int.reduceSub, Int.reduceNeg, List.reduceReplicate, List.replicate_zero, List.replicate_succ, ne_eq, List.flatMap_cons, List.flatMap_nil, List.length_replicate, List.length_append, Nat.le_refl, Nat.le_add_right, Nat.add_assoc, List.append_assoc, or_true, true_or, or_false, false_or, and_false, false_and, exists_eq_left, exists_eq_left', Option.some.injEq, DV.int.injEq, DV.bool.injEq, DV.sl.injEq, DV.own.injEq, DV.tup.injEq, List.cons.injEq, Ob.arr.injEq, Ob.box.injEq, Option.map_map, Int.toNat_natCast, Int.toNat_zero, Nat.reducePow, Int.toNat_one, Int.reduceMul, Nat.mul_one, Nat.zero_add, Nat.add_zero, Function.comp_apply, List.map_append, List.map_replicate, Int.cast_ofNat_Int, Nat.left_eq_add, Nat.add_eq_left, Nat.add_left_cancel_iff]
    obtain ⟨g1, g2, g3⟩ := uallF_take hk_l i hi
    refine ⟨fun h => ?_, fun h => ?_⟩
    · have h0 : i < l.length := by omega
      have hsz : sz_l = 1 := hs_l.resolve_right fun e => by simp [e] at h0
      have hb := getD_lt hk_l h0
      have hr := rstep_eq g1 hb
      have h2 := ustep_len (uallF (l.take i)).2 (l.getD i 0)
      have hgd : l.getD i 0 = l[i] := by rw [List.getD_eq_getElem?_getD, List.getElem?_eq_getElem h0]; rfl
      have e : uallF (l.take (i + 1)) = ((uallF (l.take i)).1 ++ (ustep (uallF (l.take i)).2 (l.getD i 0)).2, (ustep (uallF (l.take i)).2 (l.getD i 0)).1) := by
        rw [List.take_succ_eq_append_getElem h0, uallF_snoc, hgd]
      rw [hr]
      refine ⟨⟨by omega, h, hsz⟩, h0, ⟨g1, hb, by omega⟩, ⟨by omega, by omega⟩, by omega, i + 1, ?_, by omega, by omega⟩
      rw [e]
      exact ⟨⟨by simp, rfl, by rw [wI64] <;> omega⟩, rfl⟩
    · have h1 : i = l.length := by omega
      subst h1
      rw [List.take_length, List.take_length]
      exact ⟨by omega, rfl, rfl⟩
def F_rall : List DV → Option FSpec
  | [a_l] => some ⟨isInts .u8 a_l ∧ (intsD a_l).length ≤ 10000000, fun n => (.tup [.sl 1 (intRows .i32 (uallF (intsD a_l)).1) .any, .sl 1 (intRows .u8 (uallF (intsD a_l)).2) .any], [])⟩
  | _ => none
theorem F_rall_1 (a_l : DV) : F_rall [a_l] = some ⟨isInts .u8 a_l ∧ (intsD a_l).length ≤ 10000000, fun n => (.tup [.sl 1 (intRows .i32 (uallF (intsD a_l)).1) .any, .sl 1 (intRows .u8 (uallF (intsD a_l)).2) .any], [])⟩ := nrfl _
theorem rall_ok (args : List DV) (s : FSpec) (hs : F_rall args = some s) (hp : s.pre) : PCalls PG 15 args fun n r os => r = (s.res n).1 ∧ os = (s.res n).2 := by
  unfold F_rall at hs
  split at hs
  · rename_i a_l
    obtain rfl := Option.some.inj hs
    obtain ⟨hi_l, hp⟩ := hp
    obtain ⟨s0_l, k0_l, h1_l, h2_l, h3_l⟩ := isInts_inv hi_l
    have this := rall_P (k_l := k0_l) h2_l h3_l hp
    rw [← h1_l] at this
    exact this
  · cases hs

def T14 : FL := (15, F_rall) :: T13
theorem T14_ok : FOk PG (tab T14) := FOk.cons (T13_ok) rall_ok
theorem T14_at_rall (args : List DV) : tab T14 15 args = (F_rall args).map .o := nrfl _
theorem T14_at_rform (args : List DV) : tab T14 22 args = (F_rform args).map .o := nrfl _
theorem T14_at_rstep (args : List DV) : tab T14 18 args = (F_rstep args).map .o := nrfl _
theorem T14_at_whole (args : List DV) : tab T14 37 args = (F_whole args).map .o := nrfl _
theorem T14_at_put (args : List DV) : tab T14 21 args = (F_put args).map .o := nrfl _
theorem T14_at_uall (args : List DV) : tab T14 14 args = (F_uall args).map .o := nrfl _
theorem T14_at_rbegins (args : List DV) : tab T14 20 args = (F_rbegins args).map .o := nrfl _
theorem T14_at_appRune (args : List DV) : tab T14 39 args = (F_appRune args).map .o := nrfl _
theorem T14_at_appNon (args : List DV) : tab T14 50 args = (F_appNon args).map .o := nrfl _
theorem T14_at_step (args : List DV) : tab T14 17 args = (F_step args).map .o := nrfl _
theorem T14_at_ubegins (args : List DV) : tab T14 19 args = (F_ubegins args).map .o := nrfl _
theorem T14_at_decode (args : List DV) : tab T14 36 args = (F_decode args).map .o := nrfl _
theorem T14_at_full (args : List DV) : tab T14 38 args = (F_full args).map .o := nrfl _
theorem T14_at_clone (args : List DV) : tab T14 35 args = (F_clone args).map .o := nrfl _
theorem T14_at_slow (args : List DV) : tab T14 49 args = (F_slow args).map .o := nrfl _
theorem T14_at_may (args : List DV) : tab T14 24 args = (F_may args).map .o := nrfl _
theorem T14_at_runes (args : List DV) : tab T14 16 args = (F_runes args).map .o := nrfl _
theorem T14_b : type_of% (And.intro @T14_at_rall <| And.intro @F_rall_1 <| And.intro @T14_at_rform <| And.intro @F_rform_1 <| And.intro @T14_at_rstep <| And.intro @F_rstep_1 <| And.intro @T14_at_whole <| And.intro @F_whole_1 <| And.intro @T14_at_put <| And.intro @F_put_1 <| And.intro @T14_at_uall <| And.intro @F_uall_1 <| And.intro @T14_at_rbegins <| And.intro @F_rbegins_1 <| And.intro @T14_at_appRune <| And.intro @F_appRune_1 <| And.intro @T14_at_appNon <| And.intro @F_appNon_1 <| And.intro @T14_at_step <| And.intro @F_step_1 <| And.intro @T14_at_ubegins <| And.intro @F_ubegins_1 <| And.intro @T14_at_decode <| And.intro @F_decode_1 <| And.intro @T14_at_full <| And.intro @F_full_1 <| And.intro @T14_at_clone <| And.intro @F_clone_nil <| And.intro @F_clone_non <| And.intro @T14_at_slow <| And.intro @F_slow_1 <| And.intro @T14_at_may <| And.intro @F_may_1 <| And.intro @T14_at_runes <| @F_runes_1) := And.intro @T14_at_rall <| And.intro @F_rall_1 <| And.intro @T14_at_rform <| And.intro @F_rform_1 <| And.intro @T14_at_rstep <| And.intro @F_rstep_1 <| And.intro @T14_at_whole <| And.intro @F_whole_1 <| And.intro @T14_at_put <| And.intro @F_put_1 <| And.intro @T14_at_uall <| And.intro @F_uall_1 <| And.intro @T14_at_rbegins <| And.intro @F_rbegins_1 <| And.intro @T14_at_appRune <| And.intro @F_appRune_1 <| And.intro @T14_at_appNon <| And.intro @F_appNon_1 <| And.intro @T14_at_step <| And.intro @F_step_1 <| And.intro @T14_at_ubegins <| And.intro @F_ubegins_1 <| And.intro @T14_at_decode <| And.intro @F_decode_1 <| And.intro @T14_at_full <| And.intro @F_full_1 <| And.intro @T14_at_clone <| And.intro @F_clone_nil <| And.intro @F_clone_non <| And.intro @T14_at_slow <| And.intro @F_slow_1 <| And.intro @T14_at_may <| And.intro @F_may_1 <| And.intro @T14_at_runes <| @F_runes_1

def pieces3 : List (List UInt8) := [[97], [195, 169], [230, 188, 162], [240, 159, 152, 128], [255], [195], [230], [230, 188], [240, 159], [237, 160, 128], [192, 128], [244, 144], [128], [224, 159], [240, 143], [239, 191, 189], [245]]
def strRows (l : List (List UInt8)) : List (List DV) := l.map fun s => [.str s]
theorem strRows_length (l : List (List UInt8)) : (strRows l).length = l.length := by simp [strRows]
theorem pieces3_len : pieces3.length = 17 := rfl
theorem bindO_iteN {α : Type} (c : Prop) [Decidable c] (x : Option α) (f : α → Prop) : bindO (if c then none else x) f = (¬ c ∧ bindO x f) := by
  by_cases h : c <;> simp [h, bindO]
theorem bindO_strRows (l : List (List UInt8)) (n : Nat) (f : List DV → Prop) : bindO (strRows l)[n]? f = (n < l.length ∧ f [.str (l.getD n [])]) := by
  by_cases h : n < l.length
  · simp [strRows, List.getElem?_eq_getElem h, bindO, h]
  · simp [strRows, List.getElem?_eq_none (Nat.le_of_not_lt h), bindO, h]
def nums (s : List UInt8) : List Int := s.map fun b => (b.toNat : Int)
theorem bytesRows_nums (s : List UInt8) : bytesRows s = intRows .u8 (nums s) := by simp [bytesRows, intRows, nums]
theorem nums_length (s : List UInt8) : (nums s).length = s.length := by simp [nums]
theorem nums_in (s : List UInt8) (h : s.length ≤ 1000000) : inK .u8 (nums s) := by
  refine inK_u8 (by simp [nums]; omega) fun n hn => ?_
  simp only [nums, List.mem_map] at hn
  obtain ⟨b, _, rfl⟩ := hn
  have := b.toNat_lt
  omega
def someF (l : List Int) : List Int := l.flatMap fun k => nums (pieces3.getD (k.tmod 17).toNat [])
theorem someF_snoc (l : List Int) (k : Int) : someF (l ++ [k]) = someF l ++ nums (pieces3.getD (k.tmod 17).toNat []) := by simp [someF]
theorem piece_len (n : Nat) : (pieces3.getD n []).length ≤ 4 := by
  by_cases h : n < 17
  · have : ∀ n, n < 17 → (pieces3.getD n []).length ≤ 4 := by decide
    exact this n h
  · rw [List.getD_eq_getElem?_getD, List.getElem?_eq_none (by simp [pieces3]; omega)]; simp
theorem someF_len (l : List Int) : (someF l).length ≤ 4 * l.length := by
  induction l with
  | nil => simp [someF]
  | cons a l ih =>
    have := piece_len (a.tmod 17).toNat
    have e : someF (a :: l) = nums (pieces3.getD (a.tmod 17).toNat []) ++ someF l := by simp [someF]
    rw [e, List.length_append, nums_length, List.length_cons]
    omega
theorem someF_in (l : List Int) (h : l.length ≤ 1000000) : inK .u8 (someF l) := by
  have hl := someF_len l
  refine inK_u8 (by omega) fun n hn => ?_
  simp only [someF, List.mem_flatMap] at hn
  obtain ⟨k, _, hk⟩ := hn
  exact (nums_in (pieces3.getD (k.tmod 17).toNat []) (by have := piece_len (k.tmod 17).toNat; omega)).u8 hk
theorem some3_P {sz_l : Nat} {k_l : SK} {l : List Int} (hs_l : sz_l = 1 ∨ l = []) (hk_l : inK .u8 l) (hp : l.length ≤ 1000000) :
    PCalls PG 13 [.sl sz_l (intRows .u8 l) k_l] fun n RR OO => RR = ((.sl 1 (intRows .u8 (someF l)) .any, []) : DV × Objs).1 ∧ OO = ((.sl 1 (intRows .u8 (someF l)) .any, []) : DV × Objs).2 := by
  refine PCalls.by_fn (res := fun n => (.sl 1 (intRows .u8 (someF l)) .any, [])) T14_ok rc_some3_ok (by simp [rc_some3]) fun n => ?_
  unfold rc_some3
  dsimp only
  simp -implicitDefEqProofs only [T14_b, vcA1, vcA2, vcA3, vcA4, vcA5, vcA6, vcA7, ↓vcP1, ↓vcP2, ↓reduceIte, Option.map_some, Option.map_none, Option.bind_some, Option.bind_none, if_true, if_false, reduceCtorEq, beq_true, beq_false, Bool.not_true, Bool.not_false, BEq.rfl, Bool.true_beq, Bool.false_beq, and_true, true_and, and_self, decide_true, decide_false, List.length_cons, List.length_nil, List.all_cons, List.all_nil, Bool.and_true, Bool.and_self, List.getElem?_cons_zero, List.getElem?_cons_succ, List.set_cons_zero, List.set_cons_succ, List.nil_append, List.cons_append, List.append_nil, List.map_cons, List.map_nil, not_true_eq_false, not_false_eq_true, false_implies, true_implies, implies_true, List.take_succ_cons, List.take_zero, List.take_nil, List.drop_succ_cons, List.drop_zero, List.drop_nil, Nat.reduceLT, Nat.reduceLeDiff, Nat.reduceEqDiff, Nat.reduceAdd, Nat.reduceSub, Nat.reduceMul, Int.reduceLT, Int.reduceLE, Int.reduceEq, Int.reduceToNat, Int.reduceAdd, Int.reduceSub, Int.reduceNeg, List.reduceReplicate, List.replicate_zero, List.replicate_succ, ne_eq, List.flatMap_cons, List.flatMap_nil, List.length_replicate, List.length_append, Nat.le_refl, Nat.le_add_right, Nat.add_assoc, List.append_assoc, or_true, true_or, or_false, false_or, and_false, false_and, exists_eq_left, exists_eq_left', Option.some.injEq, DV.int.injEq, DV.bool.injEq, DV.sl.injEq, DV.own.injEq, DV.tup.injEq, List.cons.injEq, Ob.arr.injEq, Ob.box.injEq, Option.map_map, Int.toNat_natCast, Int.toNat_zero, Nat.reducePow, Int.toNat_one, Int.reduceMul, Nat.mul_one, Nat.zero_add, Nat.add_zero, Function.comp_apply, List.map_append, List.map_replicate, Int.cast_ofNat_Int, Nat.left_eq_add, Nat.add_eq_left, Nat.add_left_cancel_iff]
  refine LoopWp.own 4 1 rfl (.inl rfl) ?_
  refine LoopWp.invR T14_ok (S := fun m (i : Nat) => ⟨[(0, .sl sz_l (intRows .u8 l) k_l), (3, .sl 1 (strRows pieces3) .any), (4, .own m 0 (someF (l.take i)).length), (5, .int .i64 i)],
        List.replicate m none ++ [some (.arr 1 (intRows .u8 (someF (l.take i))))]⟩) (I := fun i => i ≤ l.length) (μ := fun i => l.length - i) n 0 (by omega) ?_ ?_
  · simp -implicitDefEqProofs only [List.take_zero, vcA1, vcA2, vcA3, vcA4, vcA5, vcA6, vcA7, ↓vcP1, ↓vcP2, ↓reduceIte, Option.map_some, Option.map_none, Option.bind_some, Option.bind_none, if_true, if_false, reduceCtorEq, beq_true, beq_false, Bool.not_true, Bool.not_false, BEq.rfl, Bool.true_beq, Bool.false_beq, and_true, true_and, and_self, decide_true, decide_false, List.length_cons, List.length_nil, List.all_cons, List.all_nil, Bool.and_true, Bool.and_self, List.getElem?_cons_zero, List.getElem?_cons_succ, List.set_cons_zero, List.set_cons_succ, List.nil_append, List.cons_append, List.append_nil, List.map_cons, List.map_nil, not_true_eq_false, not_false_eq_true, false_implies, true_implies, implies_true, List.take_succ_cons, List.take_zero, List.take_nil, List.drop_succ_cons, List.drop_zero, List.drop_nil, Nat.reduceLT, Nat.reduceLeDiff, Nat.reduceEqDiff, Nat.reduceAdd, Nat.reduceSub, Nat.reduceMul, Int.reduceLT, Int.reduceLE, Int.reduceEq, Int.reduceToNat, Int.reduceAdd, Int.reduceSub, Int.reduceNeg, List.reduceReplicate, List.replicate_zero, List.replicate_succ, ne_eq, List.flatMap_cons, List.flatMap_nil, List.length_replicate, List.length_append, Nat.le_refl, Nat.le_add_right, Nat.add_assoc, List.append_assoc, or_true, true_or, or_false, false_or, and_false, false_and, exists_eq_left, exists_eq_left', Option.some.injEq, DV.int.injEq, DV.bool.injEq, DV.sl.injEq, DV.own.injEq, DV.tup.injEq, List.cons.injEq, Ob.arr.injEq, Ob.box.injEq, Option.map_map, Int.toNat_natCast, Int.toNat_zero, Nat.reducePow, Int.toNat_one, Int.reduceMul, Nat.mul_one, Nat.zero_add, Nat.add_zero, Function.comp_apply, List.map_append, List.map_replicate, Int.cast_ofNat_Int, Nat.left_eq_add, Nat.add_eq_left, Nat.add_left_cancel_iff]
    exact ⟨⟨rfl, rfl⟩, rfl⟩
  · intro m i hm hi
    unfold rc_some3_l0
    simp -implicitDefEqProofs only [T14_b, strRows_length, pieces3_len, bindO_strRows, ↓bindO_iteN, bytesRows_nums, vcA1, vcA2, vcA3, vcA4, vcA5, vcA6, vcA7, ↓vcP1, ↓vcP2, ↓reduceIte, Option.map_some, Option.map_none, Option.bind_some, Option.bind_none, if_true, if_false, reduceCtorEq, beq_true, beq_false, Bool.not_true, Bool.not_false, BEq.rfl, Bool.true_beq, Bool.false_beq, and_true, true_and, and_self, decide_true, decide_false, List.length_cons, List.length_nil, List.all_cons, List.all_nil, Bool.and_true, Bool.and_self, List.getElem?_cons_zero, List.getElem?_cons_succ, List.set_cons_zero, List.set_cons_succ, List.nil_append, List.cons_append, List.append_nil, List.map_cons, List.map_nil, not_true_eq_false, not_false_eq_true, false_implies, true_implies, implies_true, List.take_succ_cons, List.take_zero, List.take_nil, List.drop_succ_cons, List.drop_zero, List.drop_nil, Nat.reduceLT, Nat.reduceLeDiff, Nat.reduceEqDiff, Nat.reduceAdd, Nat.reduceSub, Nat.reduceMul, Int.reduceLT, Int.reduceLE, Int.reduceEq, Int.reduceToNat, Int.reduceAdd, Int.reduceSub, Int.reduceNeg, List.reduceReplicate, List.replicate_zero, List.replicate_succ, ne_eq, List.flatMap_cons, List.flatMap_nil, List.length_replicate, List.length_append, Nat.le_refl, Nat.le_add_right, Nat.add_assoc, List.append_assoc, or_true, true_or, or_false, false_or, and_false, false_and, exists_eq_left, exists_eq_left', Option.some.injEq, DV.int.injEq, DV.bool.injEq, DV.sl.injEq, DV.own.injEq, DV.tup.injEq, List.cons.injEq, Ob.arr.injEq, Ob.box.injEq, Option.map_map, Int.toNat_natCast, Int.toNat_zero, Nat.reducePow, Int.toNat_one, Int.reduceMul, Nat.mul_one, Nat.zero_add, Nat.add_zero, Function.comp_apply, List.map_append, List.map_replicate, Int.cast_ofNat_Int, Nat.left_eq_add, Nat.add_eq_left, Nat.add_left_cancel_iff]
    have hl4 := someF_len (l.take i)
    have htl : (l.take i).length = i := by rw [List.length_take]; omega
    rw [htl] at hl4
    refine ⟨fun h => ?_, fun h => ?_⟩
    · have h0 : i < l.length := by omega
      have hsz : sz_l = 1 := hs_l.resolve_right fun e => by simp [e] at h0
      have hb := getD_lt hk_l h0
      have hgd : l.getD i 0 = l[i] := by rw [List.getD_eq_getElem?_getD, List.getElem?_eq_getElem h0]; rfl
      have e : someF (l.take (i + 1)) = someF (l.take i) ++ nums (pieces3.getD ((l.getD i 0).tmod 17).toNat []) := by
        rw [List.take_succ_eq_append_getElem h0, someF_snoc, hgd]
      rw [wI64 (n := l.getD i 0) (by omega) (by omega)]
      have hm17 : (l.getD i 0).tmod 17 = l.getD i 0 % 17 := Int.tmod_eq_emod_of_nonneg hb.1
      have hpl := piece_len ((l.getD i 0).tmod 17).toNat
      rw [nums_length]
      refine ⟨⟨by omega, h, hsz⟩, h0, ⟨by omega, by omega⟩, by omega, ⟨by omega, by omega⟩, by omega, i + 1, ?_, by omega, by omega⟩
      rw [e]
      exact ⟨⟨by simp [nums_length], by rw [wI64] <;> omega⟩, rfl⟩
    · have h1 : i = l.length := by omega
      subst h1
      rw [List.take_length, List.take_length]
      exact ⟨by omega, rfl⟩
def F_some3 : List DV → Option FSpec
  | [a_l] => some ⟨isInts .u8 a_l ∧ (intsD a_l).length ≤ 1000000, fun n => (.sl 1 (intRows .u8 (someF (intsD a_l))) .any, [])⟩
  | _ => none
theorem F_some3_1 (a_l : DV) : F_some3 [a_l] = some ⟨isInts .u8 a_l ∧ (intsD a_l).length ≤ 1000000, fun n => (.sl 1 (intRows .u8 (someF (intsD a_l))) .any, [])⟩ := nrfl _
theorem some3_ok (args : List DV) (s : FSpec) (hs : F_some3 args = some s) (hp : s.pre) : PCalls PG 13 args fun n r os => r = (s.res n).1 ∧ os = (s.res n).2 := by
  unfold F_some3 at hs
  split at hs
  · rename_i a_l
    obtain rfl := Option.some.inj hs
    obtain ⟨hi_l, hp⟩ := hp
    obtain ⟨s0_l, k0_l, h1_l, h2_l, h3_l⟩ := isInts_inv hi_l
    have this := some3_P (k_l := k0_l) h2_l h3_l hp
    rw [← h1_l] at this
    exact this
  · cases hs

def runes20 : List Int := [97, 98, 32, 90, 48, 45, 233, 28450, 23383, 769, 8203, 1, 27, 127, 46, 99, 128512, 95, 65533, 100]
theorem srune_P {k : Int} (hb_k : 0 ≤ k ∧ k ≤ 255)  :
    PCalls PG 40 [.int .u8 k] fun n RR OO => RR = ((.int .i32 (runes20.getD (k.tmod 20).toNat 0), []) : DV × Objs).1 ∧ OO = ((.int .i32 (runes20.getD (k.tmod 20).toNat 0), []) : DV × Objs).2 := by
  refine PCalls.by_fn (res := fun n => (.int .i32 (runes20.getD (k.tmod 20).toNat 0), [])) T14_ok rc_srune_ok (by simp [rc_srune]) fun n => ?_
  unfold rc_srune
  dsimp only
  simp -implicitDefEqProofs only [T14_b, vcA1, vcA2, vcA3, vcA4, vcA5, vcA6, vcA7, ↓vcP1, ↓vcP2, ↓reduceIte, Option.map_some, Option.map_none, Option.bind_some, Option.bind_none, if_true, if_false, reduceCtorEq, beq_true, beq_false, Bool.not_true, Bool.not_false, BEq.rfl, Bool.true_beq, Bool.false_beq, and_true, true_and, and_self, decide_true, decide_false, List.length_cons, List.length_nil, List.all_cons, List.all_nil, Bool.and_true, Bool.and_self, List.getElem?_cons_zero, List.getElem?_cons_succ, List.set_cons_zero, List.set_cons_succ, List.nil_append, List.cons_append, List.append_nil, List.map_cons, List.map_nil, not_true_eq_false, not_false_eq_true, false_implies, true_implies, implies_true, List.take_succ_cons, List.take_zero, List.take_nil, List.drop_succ_cons, List.drop_zero, List.drop_nil, Nat.reduceLT, Nat.reduceLeDiff, Nat.reduceEqDiff, Nat.reduceAdd, Nat.reduceSub, Nat.reduceMul, Int.reduceLT, Int.reduceLE, Int.reduceEq, Int.reduceToNat, Int.reduceAdd, Int.reduceSub, Int.reduceNeg, List.reduceReplicate, List.replicate_zero, List.replicate_succ, ne_eq, List.flatMap_cons, List.flatMap_nil, List.length_replicate, List.length_append, Nat.le_refl, Nat.le_add_right, Nat.add_assoc, List.append_assoc, or_true, true_or, or_false, false_or, and_false, false_and, exists_eq_left, exists_eq_left', Option.some.injEq, DV.int.injEq, DV.bool.injEq, DV.sl.injEq, DV.own.injEq, DV.tup.injEq, List.cons.injEq, Ob.arr.injEq, Ob.box.injEq, Option.map_map, Int.toNat_natCast, Int.toNat_zero, Nat.reducePow, Int.toNat_one, Int.reduceMul, Nat.mul_one, Nat.zero_add, Nat.add_zero, Function.comp_apply, List.map_append, List.map_replicate, Int.cast_ofNat_Int, Nat.left_eq_add, Nat.add_eq_left, Nat.add_left_cancel_iff]
  have : k.tmod 20 = k % 20 := Int.tmod_eq_emod_of_nonneg hb_k.1
  exact ⟨⟨by omega, by omega⟩, by omega, rfl⟩
def F_srune : List DV → Option FSpec
  | [.int .u8 k] => some ⟨(0 ≤ k ∧ k ≤ 255) ∧ True, fun n => (.int .i32 (runes20.getD (k.tmod 20).toNat 0), [])⟩
  | _ => none
theorem F_srune_1 (k : Int) : F_srune [.int .u8 k] = some ⟨(0 ≤ k ∧ k ≤ 255) ∧ True, fun n => (.int .i32 (runes20.getD (k.tmod 20).toNat 0), [])⟩ := nrfl _
theorem srune_ok (args : List DV) (s : FSpec) (hs : F_srune args = some s) (hp : s.pre) : PCalls PG 40 args fun n r os => r = (s.res n).1 ∧ os = (s.res n).2 := by
  unfold F_srune at hs
  split at hs
  · rename_i k
    obtain rfl := Option.some.inj hs
    obtain ⟨hb_k, hp⟩ := hp
    have this := srune_P  hb_k 
    exact this
  · cases hs

def T15 : FL := (13, F_some3) :: (40, F_srune) :: T14
theorem T15_ok : FOk PG (tab T15) := FOk.cons (FOk.cons (T14_ok) srune_ok) some3_ok
theorem T15_at_some3 (args : List DV) : tab T15 13 args = (F_some3 args).map .o := nrfl _
theorem T15_at_srune (args : List DV) : tab T15 40 args = (F_srune args).map .o := nrfl _
theorem T15_at_rall (args : List DV) : tab T15 15 args = (F_rall args).map .o := nrfl _
theorem T15_at_rform (args : List DV) : tab T15 22 args = (F_rform args).map .o := nrfl _
theorem T15_at_rstep (args : List DV) : tab T15 18 args = (F_rstep args).map .o := nrfl _
theorem T15_at_whole (args : List DV) : tab T15 37 args = (F_whole args).map .o := nrfl _
theorem T15_at_put (args : List DV) : tab T15 21 args = (F_put args).map .o := nrfl _
theorem T15_at_uall (args : List DV) : tab T15 14 args = (F_uall args).map .o := nrfl _
theorem T15_at_rbegins (args : List DV) : tab T15 20 args = (F_rbegins args).map .o := nrfl _
theorem T15_at_appRune (args : List DV) : tab T15 39 args = (F_appRune args).map .o := nrfl _
theorem T15_at_appNon (args : List DV) : tab T15 50 args = (F_appNon args).map .o := nrfl _
theorem T15_at_step (args : List DV) : tab T15 17 args = (F_step args).map .o := nrfl _
theorem T15_at_ubegins (args : List DV) : tab T15 19 args = (F_ubegins args).map .o := nrfl _
theorem T15_at_decode (args : List DV) : tab T15 36 args = (F_decode args).map .o := nrfl _
theorem T15_at_full (args : List DV) : tab T15 38 args = (F_full args).map .o := nrfl _
theorem T15_at_clone (args : List DV) : tab T15 35 args = (F_clone args).map .o := nrfl _
theorem T15_at_slow (args : List DV) : tab T15 49 args = (F_slow args).map .o := nrfl _
theorem T15_at_may (args : List DV) : tab T15 24 args = (F_may args).map .o := nrfl _
theorem T15_at_runes (args : List DV) : tab T15 16 args = (F_runes args).map .o := nrfl _
theorem T15_b : type_of% (And.intro @T15_at_some3 <| And.intro @F_some3_1 <| And.intro @T15_at_srune <| And.intro @F_srune_1 <| And.intro @T15_at_rall <| And.intro @F_rall_1 <| And.intro @T15_at_rform <| And.intro @F_rform_1 <| And.intro @T15_at_rstep <| And.intro @F_rstep_1 <| And.intro @T15_at_whole <| And.intro @F_whole_1 <| And.intro @T15_at_put <| And.intro @F_put_1 <| And.intro @T15_at_uall <| And.intro @F_uall_1 <| And.intro @T15_at_rbegins <| And.intro @F_rbegins_1 <| And.intro @T15_at_appRune <| And.intro @F_appRune_1 <| And.intro @T15_at_appNon <| And.intro @F_appNon_1 <| And.intro @T15_at_step <| And.intro @F_step_1 <| And.intro @T15_at_ubegins <| And.intro @F_ubegins_1 <| And.intro @T15_at_decode <| And.intro @F_decode_1 <| And.intro @T15_at_full <| And.intro @F_full_1 <| And.intro @T15_at_clone <| And.intro @F_clone_nil <| And.intro @F_clone_non <| And.intro @T15_at_slow <| And.intro @F_slow_1 <| And.intro @T15_at_may <| And.intro @F_may_1 <| And.intro @T15_at_runes <| @F_runes_1) := And.intro @T15_at_some3 <| And.intro @F_some3_1 <| And.intro @T15_at_srune <| And.intro @F_srune_1 <| And.intro @T15_at_rall <| And.intro @F_rall_1 <| And.intro @T15_at_rform <| And.intro @F_rform_1 <| And.intro @T15_at_rstep <| And.intro @F_rstep_1 <| And.intro @T15_at_whole <| And.intro @F_whole_1 <| And.intro @T15_at_put <| And.intro @F_put_1 <| And.intro @T15_at_uall <| And.intro @F_uall_1 <| And.intro @T15_at_rbegins <| And.intro @F_rbegins_1 <| And.intro @T15_at_appRune <| And.intro @F_appRune_1 <| And.intro @T15_at_appNon <| And.intro @F_appNon_1 <| And.intro @T15_at_step <| And.intro @F_step_1 <| And.intro @T15_at_ubegins <| And.intro @F_ubegins_1 <| And.intro @T15_at_decode <| And.intro @F_decode_1 <| And.intro @T15_at_full <| And.intro @F_full_1 <| And.intro @T15_at_clone <| And.intro @F_clone_nil <| And.intro @F_clone_non <| And.intro @T15_at_slow <| And.intro @F_slow_1 <| And.intro @T15_at_may <| And.intro @F_may_1 <| And.intro @T15_at_runes <| @F_runes_1

def sruneF (k : Int) : Int := runes20.getD (k.tmod 20).toNat 0
theorem sruneF_in (k : Int) : 0 ≤ sruneF k ∧ sruneF k ≤ 1114111 := by
  unfold sruneF
  generalize (k.tmod 20).toNat = n
  by_cases h : n < 20
  · have : ∀ n, n < 20 → 0 ≤ runes20.getD n 0 ∧ runes20.getD n 0 ≤ 1114111 := by decide
    exact this n h
  · rw [List.getD_eq_getElem?_getD, List.getElem?_eq_none (by simp [runes20]; omega)]; simp
theorem srunes_P {sz_l : Nat} {k_l : SK} {l : List Int} (hs_l : sz_l = 1 ∨ l = []) (hk_l : inK .u8 l) (hp : l.length ≤ 10000000) :
    PCalls PG 23 [.sl sz_l (intRows .u8 l) k_l] fun n RR OO => RR = ((.sl 1 (intRows .i32 (l.map sruneF)) .any, []) : DV × Objs).1 ∧ OO = ((.sl 1 (intRows .i32 (l.map sruneF)) .any, []) : DV × Objs).2 := by
  refine PCalls.by_fn (res := fun n => (.sl 1 (intRows .i32 (l.map sruneF)) .any, [])) T15_ok rc_srunes_ok (by simp [rc_srunes]) fun n => ?_
  unfold rc_srunes
  dsimp only
  simp -implicitDefEqProofs only [T15_b, vcA1, vcA2, vcA3, vcA4, vcA5, vcA6, vcA7, ↓vcP1, ↓vcP2, ↓reduceIte, Option.map_some, Option.map_none, Option.bind_some, Option.bind_none, if_true, if_false, reduceCtorEq, beq_true, beq_false, Bool.not_true, Bool.not_false, BEq.rfl, Bool.true_beq, Bool.false_beq, and_true, true_and, and_self, decide_true, decide_false, List.length_cons, List.length_nil, List.all_cons, List.all_nil, Bool.and_true, Bool.and_self, List.getElem?_cons_zero, List.getElem?_cons_succ, List.set_cons_zero, List.set_cons_succ, List.nil_append, List.cons_append, List.append_nil, List.map_cons, List.map_nil, not_true_eq_false, not_false_eq_true, false_implies, true_implies, implies_true, List.take_succ_cons, List.take_zero, List.take_nil, List.drop_succ_cons, List.drop_zero, List.drop_nil, Nat.reduceLT, Nat.reduceLeDiff, Nat.reduceEqDiff, Nat.reduceAdd, Nat.reduceSub, Nat.reduceMul, Int.reduceLT, Int.reduceLE, Int.reduceEq, Int.reduceToNat, Int.reduceAdd, Int.reduceSub, Int.reduceNeg, List.reduceReplicate, List.replicate_zero, List.replicate_succ, ne_eq, List.flatMap_cons, List.flatMap_nil, List.length_replicate, List.length_append, Nat.le_refl, Nat.le_add_right, Nat.add_assoc, List.append_assoc, or_true, true_or, or_false, false_or, and_false, false_and, exists_eq_left, exists_eq_left', Option.some.injEq, DV.int.injEq, DV.bool.injEq, DV.sl.injEq, DV.own.injEq, DV.tup.injEq, List.cons.injEq, Ob.arr.injEq, Ob.box.injEq, Option.map_map, Int.toNat_natCast, Int.toNat_zero, Nat.reducePow, Int.toNat_one, Int.reduceMul, Nat.mul_one, Nat.zero_add, Nat.add_zero, Function.comp_apply, List.map_append, List.map_replicate, Int.cast_ofNat_Int, Nat.left_eq_add, Nat.add_eq_left, Nat.add_left_cancel_iff]
  refine LoopWp.own 3 1 rfl (.inl rfl) ?_
  refine LoopWp.invR T15_ok (S := fun m (i : Nat) => ⟨[(0, .sl sz_l (intRows .u8 l) k_l), (3, .own m 0 ((l.take i).map sruneF).length), (4, .int .i64 i)],
        List.replicate m none ++ [some (.arr 1 (intRows .i32 ((l.take i).map sruneF)))]⟩) (I := fun i => i ≤ l.length) (μ := fun i => l.length - i) n 0 (by omega) ?_ ?_
  · simp -implicitDefEqProofs only [List.take_zero, vcA1, vcA2, vcA3, vcA4, vcA5, vcA6, vcA7, ↓vcP1, ↓vcP2, ↓reduceIte, Option.map_some, Option.map_none, Option.bind_some, Option.bind_none, if_true, if_false, reduceCtorEq, beq_true, beq_false, Bool.not_true, Bool.not_false, BEq.rfl, Bool.true_beq, Bool.false_beq, and_true, true_and, and_self, decide_true, decide_false, List.length_cons, List.length_nil, List.all_cons, List.all_nil, Bool.and_true, Bool.and_self, List.getElem?_cons_zero, List.getElem?_cons_succ, List.set_cons_zero, List.set_cons_succ, List.nil_append, List.cons_append, List.append_nil, List.map_cons, List.map_nil, not_true_eq_false, not_false_eq_true, false_implies, true_implies, implies_true, List.take_succ_cons, List.take_zero, List.take_nil, List.drop_succ_cons, List.drop_zero, List.drop_nil, Nat.reduceLT, Nat.reduceLeDiff, Nat.reduceEqDiff, Nat.reduceAdd, Nat.reduceSub, Nat.reduceMul, Int.reduceLT, Int.reduceLE, Int.reduceEq, Int.reduceToNat, Int.reduceAdd, Int.reduceSub, Int.reduceNeg, List.reduceReplicate, List.replicate_zero, List.replicate_succ, ne_eq, List.flatMap_cons, List.flatMap_nil, List.length_replicate, List.length_append, Nat.le_refl, Nat.le_add_right, Nat.add_assoc, List.append_assoc, or_true, true_or, or_false, false_or, and_false, false_and, exists_eq_left, exists_eq_left', Option.some.injEq, DV.int.injEq, DV.bool.injEq, DV.sl.injEq, DV.own.injEq, DV.tup.injEq, List.cons.injEq, Ob.arr.injEq, Ob.box.injEq, Option.map_map, Int.toNat_natCast, Int.toNat_zero, Nat.reducePow, Int.toNat_one, Int.reduceMul, Nat.mul_one, Nat.zero_add, Nat.add_zero, Function.comp_apply, List.map_append, List.map_replicate, Int.cast_ofNat_Int, Nat.left_eq_add, Nat.add_eq_left, Nat.add_left_cancel_iff]
  · intro m i hm hi
    have htl : ((l.take i).map sruneF).length = i := by rw [List.length_map, List.length_take]; omega
    unfold rc_srunes_l0
    simp -implicitDefEqProofs only [T15_b, vcA1, vcA2, vcA3, vcA4, vcA5, vcA6, vcA7, ↓vcP1, ↓vcP2, ↓reduceIte, Option.map_some, Option.map_none, Option.bind_some, Option.bind_none, if_true, if_false, reduceCtorEq, beq_true, beq_false, Bool.not_true, Bool.not_false, BEq.rfl, Bool.true_beq, Bool.false_beq, and_true, true_and, and_self, decide_true, decide_false, List.length_cons, List.length_nil, List.all_cons, List.all_nil, Bool.and_true, Bool.and_self, List.getElem?_cons_zero, List.getElem?_cons_succ, List.set_cons_zero, List.set_cons_succ, List.nil_append, List.cons_append, List.append_nil, List.map_cons, List.map_nil, not_true_eq_false, not_false_eq_true, false_implies, true_implies, implies_true, List.take_succ_cons, List.take_zero, List.take_nil, List.drop_succ_cons, List.drop_zero, List.drop_nil, Nat.reduceLT, Nat.reduceLeDiff, Nat.reduceEqDiff, Nat.reduceAdd, Nat.reduceSub, Nat.reduceMul, Int.reduceLT, Int.reduceLE, Int.reduceEq, Int.reduceToNat, Int.reduceAdd, Int.reduceSub, Int.reduceNeg, List.reduceReplicate, List.replicate_zero, List.replicate_succ, ne_eq, List.flatMap_cons, List.flatMap_nil, List.length_replicate, List.length_append, Nat.le_refl, Nat.le_add_right, Nat.add_assoc, List.append_assoc, or_true, true_or, or_false, false_or, and_false, false_and, exists_eq_left, exists_eq_left', Option.some.injEq, DV.int.injEq, DV.bool.injEq, DV.sl.injEq, DV.own.injEq, DV.tup.injEq, List.cons.injEq, Ob.arr.injEq, Ob.box.injEq, Option.map_map, Int.toNat_natCast, Int.toNat_zero, Nat.reducePow, Int.toNat_one, Int.reduceMul, Nat.mul_one, Nat.zero_add, Nat.add_zero, Function.comp_apply, List.map_append, List.map_replicate, Int.cast_ofNat_Int, Nat.left_eq_add, Nat.add_eq_left, Nat.add_left_cancel_iff]
    refine ⟨fun h => ?_, fun h => ?_⟩
    · have h0 : i < l.length := by omega
      have hsz : sz_l = 1 := hs_l.resolve_right fun e => by simp [e] at h0
      have hb := getD_lt hk_l h0
      have hgd : l.getD i 0 = l[i] := by rw [List.getD_eq_getElem?_getD, List.getElem?_eq_getElem h0]; rfl
      have e : (l.take (i + 1)).map sruneF = (l.take i).map sruneF ++ [sruneF (l.getD i 0)] := by
        rw [List.take_succ_eq_append_getElem h0, List.map_append, hgd]; rfl
      refine ⟨⟨by omega, h, hsz⟩, h0, hb, ⟨by omega, by omega⟩, by omega, i + 1, ?_, by omega, by omega⟩
      rw [e]
      exact ⟨⟨by simp, by rw [wI64] <;> omega⟩, rfl⟩
    · have h1 : i = l.length := by omega
      subst h1
      rw [List.take_length, List.take_length]
      exact ⟨by omega, rfl⟩
def F_srunes : List DV → Option FSpec
  | [a_l] => some ⟨isInts .u8 a_l ∧ (intsD a_l).length ≤ 10000000, fun n => (.sl 1 (intRows .i32 ((intsD a_l).map sruneF)) .any, [])⟩
  | _ => none
theorem F_srunes_1 (a_l : DV) : F_srunes [a_l] = some ⟨isInts .u8 a_l ∧ (intsD a_l).length ≤ 10000000, fun n => (.sl 1 (intRows .i32 ((intsD a_l).map sruneF)) .any, [])⟩ := nrfl _
theorem srunes_ok (args : List DV) (s : FSpec) (hs : F_srunes args = some s) (hp : s.pre) : PCalls PG 23 args fun n r os => r = (s.res n).1 ∧ os = (s.res n).2 := by
  unfold F_srunes at hs
  split at hs
  · rename_i a_l
    obtain rfl := Option.some.inj hs
    obtain ⟨hi_l, hp⟩ := hp
    obtain ⟨s0_l, k0_l, h1_l, h2_l, h3_l⟩ := isInts_inv hi_l
    have this := srunes_P (k_l := k0_l) h2_l h3_l hp
    rw [← h1_l] at this
    exact this
  · cases hs

theorem ints_nil : ints [] = [] := nrfl _
theorem k3a : ustep [] 195 = ([195], []) := by decide
theorem k3b : ustep [195] 169 = ([], [233]) := by decide
theorem k3c : uallF [97, 255, 195, 169, 230] = ([97, 65533, 233], [230]) := by decide
theorem k3d : enc 28450 = [230, 188, 162] := by decide
theorem k3e : ubeg [230] = true := by decide
theorem k3f : ubeg [192] = false := by decide
theorem inK_lit (l : List Int) (k : IntKind) : inK k l = (l.length ≤ 4611686018427387904 ∧ ∀ n ∈ l, k.min ≤ n ∧ n ≤ k.max) := nrfl _
theorem known3_P : PCalls PG 12 [] fun n r os => r = .bool true ∧ os = [] := by
  refine PCalls.by_fn (res := fun n => (.bool true, [])) T15_ok rc_known3_ok (by simp [rc_known3]) fun n => ?_
  unfold rc_known3
  dsimp only
  simp -implicitDefEqProofs only [T15_b, ints_intRows, ints_nil, k3a, k3b, k3c, k3d, k3e, k3f, vcA1, vcA2, vcA3, vcA4, vcA5, vcA6, vcA7, ↓vcP1, ↓vcP2, ↓reduceIte, Option.map_some, Option.map_none, Option.bind_some, Option.bind_none, if_true, if_false, reduceCtorEq, beq_true, beq_false, Bool.not_true, Bool.not_false, BEq.rfl, Bool.true_beq, Bool.false_beq, and_true, true_and, and_self, decide_true, decide_false, List.length_cons, List.length_nil, List.all_cons, List.all_nil, Bool.and_true, Bool.and_self, List.getElem?_cons_zero, List.getElem?_cons_succ, List.set_cons_zero, List.set_cons_succ, List.nil_append, List.cons_append, List.append_nil, List.map_cons, List.map_nil, not_true_eq_false, not_false_eq_true, false_implies, true_implies, implies_true, List.take_succ_cons, List.take_zero, List.take_nil, List.drop_succ_cons, List.drop_zero, List.drop_nil, Nat.reduceLT, Nat.reduceLeDiff, Nat.reduceEqDiff, Nat.reduceAdd, Nat.reduceSub, Nat.reduceMul, Int.reduceLT, Int.reduceLE, Int.reduceEq, Int.reduceToNat, Int.reduceAdd, Int.reduceSub, Int.reduceNeg, List.reduceReplicate, List.replicate_zero, List.replicate_succ, ne_eq, List.flatMap_cons, List.flatMap_nil, List.length_replicate, List.length_append, Nat.le_refl, Nat.le_add_right, Nat.add_assoc, List.append_assoc, or_true, true_or, or_false, false_or, and_false, false_and, exists_eq_left, exists_eq_left', Option.some.injEq, DV.int.injEq, DV.bool.injEq, DV.sl.injEq, DV.own.injEq, DV.tup.injEq, List.cons.injEq, Ob.arr.injEq, Ob.box.injEq, Option.map_map, Int.toNat_natCast, Int.toNat_zero, Nat.reducePow, Int.toNat_one, Int.reduceMul, Nat.mul_one, Nat.zero_add, Nat.add_zero, Function.comp_apply, List.map_append, List.map_replicate, Int.cast_ofNat_Int, Nat.left_eq_add, Nat.add_eq_left, Nat.add_left_cancel_iff]
  have hc : ([UInt8.ofNat 230, UInt8.ofNat 188, UInt8.ofNat 162] == [230, 188, 162]) = true := by decide
  rw [hc, cnd_true]
  refine ⟨inK_u8 (by decide) (by decide), inK_u8 (by decide) (by decide), inK_u8 (by decide) (by decide), inK_u8 (by decide) (by decide)⟩
def F_known3 : List DV → Option FSpec
  | [] => some ⟨True, fun n => (.bool true, [])⟩
  | _ => none
theorem F_known3_1 : F_known3 [] = some ⟨True, fun n => (.bool true, [])⟩ := nrfl _
theorem known3_ok (args : List DV) (s : FSpec) (hs : F_known3 args = some s) (hp : s.pre) : PCalls PG 12 args fun n r os => r = (s.res n).1 ∧ os = (s.res n).2 := by
  unfold F_known3 at hs
  split at hs
  · obtain rfl := Option.some.inj hs
    exact known3_P
  · cases hs
def T16 : FL := (12, F_known3) :: (23, F_srunes) :: T15
theorem T16_ok : FOk PG (tab T16) := FOk.cons (FOk.cons (T15_ok) srunes_ok) known3_ok
theorem T16_at_known3 (args : List DV) : tab T16 12 args = (F_known3 args).map .o := nrfl _
theorem T16_at_srunes (args : List DV) : tab T16 23 args = (F_srunes args).map .o := nrfl _
theorem T16_at_some3 (args : List DV) : tab T16 13 args = (F_some3 args).map .o := nrfl _
theorem T16_at_srune (args : List DV) : tab T16 40 args = (F_srune args).map .o := nrfl _
theorem T16_at_rall (args : List DV) : tab T16 15 args = (F_rall args).map .o := nrfl _
theorem T16_at_rform (args : List DV) : tab T16 22 args = (F_rform args).map .o := nrfl _
theorem T16_at_rstep (args : List DV) : tab T16 18 args = (F_rstep args).map .o := nrfl _
theorem T16_at_whole (args : List DV) : tab T16 37 args = (F_whole args).map .o := nrfl _
theorem T16_at_put (args : List DV) : tab T16 21 args = (F_put args).map .o := nrfl _
theorem T16_at_uall (args : List DV) : tab T16 14 args = (F_uall args).map .o := nrfl _
theorem T16_at_rbegins (args : List DV) : tab T16 20 args = (F_rbegins args).map .o := nrfl _
theorem T16_at_appRune (args : List DV) : tab T16 39 args = (F_appRune args).map .o := nrfl _
theorem T16_at_appNon (args : List DV) : tab T16 50 args = (F_appNon args).map .o := nrfl _
theorem T16_at_step (args : List DV) : tab T16 17 args = (F_step args).map .o := nrfl _
theorem T16_at_ubegins (args : List DV) : tab T16 19 args = (F_ubegins args).map .o := nrfl _
theorem T16_at_decode (args : List DV) : tab T16 36 args = (F_decode args).map .o := nrfl _
theorem T16_at_full (args : List DV) : tab T16 38 args = (F_full args).map .o := nrfl _
theorem T16_at_clone (args : List DV) : tab T16 35 args = (F_clone args).map .o := nrfl _
theorem T16_at_slow (args : List DV) : tab T16 49 args = (F_slow args).map .o := nrfl _
theorem T16_at_may (args : List DV) : tab T16 24 args = (F_may args).map .o := nrfl _
theorem T16_at_runes (args : List DV) : tab T16 16 args = (F_runes args).map .o := nrfl _
theorem T16_b : type_of% (And.intro @T16_at_known3 <| And.intro @F_known3_1 <| And.intro @T16_at_srunes <| And.intro @F_srunes_1 <| And.intro @T16_at_some3 <| And.intro @F_some3_1 <| And.intro @T16_at_srune <| And.intro @F_srune_1 <| And.intro @T16_at_rall <| And.intro @F_rall_1 <| And.intro @T16_at_rform <| And.intro @F_rform_1 <| And.intro @T16_at_rstep <| And.intro @F_rstep_1 <| And.intro @T16_at_whole <| And.intro @F_whole_1 <| And.intro @T16_at_put <| And.intro @F_put_1 <| And.intro @T16_at_uall <| And.intro @F_uall_1 <| And.intro @T16_at_rbegins <| And.intro @F_rbegins_1 <| And.intro @T16_at_appRune <| And.intro @F_appRune_1 <| And.intro @T16_at_appNon <| And.intro @F_appNon_1 <| And.intro @T16_at_step <| And.intro @F_step_1 <| And.intro @T16_at_ubegins <| And.intro @F_ubegins_1 <| And.intro @T16_at_decode <| And.intro @F_decode_1 <| And.intro @T16_at_full <| And.intro @F_full_1 <| And.intro @T16_at_clone <| And.intro @F_clone_nil <| And.intro @F_clone_non <| And.intro @T16_at_slow <| And.intro @F_slow_1 <| And.intro @T16_at_may <| And.intro @F_may_1 <| And.intro @T16_at_runes <| @F_runes_1) := And.intro @T16_at_known3 <| And.intro @F_known3_1 <| And.intro @T16_at_srunes <| And.intro @F_srunes_1 <| And.intro @T16_at_some3 <| And.intro @F_some3_1 <| And.intro @T16_at_srune <| And.intro @F_srune_1 <| And.intro @T16_at_rall <| And.intro @F_rall_1 <| And.intro @T16_at_rform <| And.intro @F_rform_1 <| And.intro @T16_at_rstep <| And.intro @F_rstep_1 <| And.intro @T16_at_whole <| And.intro @F_whole_1 <| And.intro @T16_at_put <| And.intro @F_put_1 <| And.intro @T16_at_uall <| And.intro @F_uall_1 <| And.intro @T16_at_rbegins <| And.intro @F_rbegins_1 <| And.intro @T16_at_appRune <| And.intro @F_appRune_1 <| And.intro @T16_at_appNon <| And.intro @F_appNon_1 <| And.intro @T16_at_step <| And.intro @F_step_1 <| And.intro @T16_at_ubegins <| And.intro @F_ubegins_1 <| And.intro @T16_at_decode <| And.intro @F_decode_1 <| And.intro @T16_at_full <| And.intro @F_full_1 <| And.intro @T16_at_clone <| And.intro @F_clone_nil <| And.intro @F_clone_non <| And.intro @T16_at_slow <| And.intro @F_slow_1 <| And.intro @T16_at_may <| And.intro @F_may_1 <| And.intro @T16_at_runes <| @F_runes_1

end Go.Proofs.YteemmpghpdaloaaDoor
end
section
/- 'UtfEdges'. -/
set_option linter.unusedVariables false
set_option linter.unusedSimpArgs false
set_option maxRecDepth 10000
namespace Go.Proofs.YteemmpghpdaloaaDoor
open Go.RowKit

theorem conf_ints {k : IntKind} {d : DV} (h : Conf (.sl [.int k]) d) : ∃ l, d = .sl 1 (intRows k l) .any ∧ (∀ n ∈ l, k.min ≤ n ∧ n ≤ k.max) := by
  cases h with
  | sl row rows h1 h2 h3 =>
    refine ⟨ints rows, ?_, ?_⟩
    · congr 1
      have : ∀ R : List (List DV), (∀ r ∈ R, r.length = 1) → (∀ r ∈ R, ∀ (i : Nat) c d, [CS.int k][i]? = some c → r[i]? = some d → Conf c d) → R = intRows k (ints R) := by
        intro R
        induction R with
        | nil => intro _ _; rfl
        | cons r R ih =>
          intro g1 g2
          have g3 := g1 r (by simp)
          match r, g3 with
          | [c], _ =>
            have g4 := g2 [c] (by simp) 0 (.int k) c rfl rfl
            cases g4 with
            | int k n a b =>
              have := ih (fun r hr => g1 r (by simp [hr])) (fun r hr => g2 r (by simp [hr]))
              conv => lhs; rw [this]
              simp [ints, intRows]
      exact this rows h2 h3
    · intro n hn
      simp only [ints, List.mem_map] at hn
      obtain ⟨r, hr, rfl⟩ := hn
      have g3 := h2 r hr
      match r, g3 with
      | [c], _ =>
        have g4 := h3 [c] hr 0 (.int k) c rfl rfl
        cases g4 with
        | int k n a b => exact ⟨a, b⟩
theorem confA_ints {k : IntKind} {d : DV} (h : ConfA (false, [.sl [.int k]]) d) : ∃ l, d = .sl 1 (intRows k l) .any ∧ (∀ n ∈ l, k.min ≤ n ∧ n ≤ k.max) := by
  obtain ⟨c, h1, h2⟩ := h
  obtain rfl := (List.cons.inj h1).1
  exact conf_ints h2
theorem confA_int {k : IntKind} {d : DV} (h : ConfA (false, [.int k]) d) : ∃ n, d = .int k n ∧ k.min ≤ n ∧ n ≤ k.max := by
  obtain ⟨c, h1, h2⟩ := h
  obtain rfl := (List.cons.inj h1).1
  cases h2 with
  | int k n a b => exact ⟨n, rfl, a, b⟩
theorem confA_bool {d : DV} (h : ConfA (false, [.bool]) d) : ∃ b, d = .bool b := by
  obtain ⟨c, h1, h2⟩ := h
  obtain rfl := (List.cons.inj h1).1
  cases h2 with
  | bool b => exact ⟨b, rfl⟩
theorem inK_of {k : IntKind} {l : List Int} (h : ∀ n ∈ l, k.min ≤ n ∧ n ≤ k.max) (hl : l.length ≤ 1000000) : inK k l := ⟨by omega, h⟩
/-- Rows of slices of numbers. -/
def slRows (k : IntKind) (L : List (List Int)) : List (List DV) := L.map fun l => [.sl 1 (intRows k l) .any]
theorem slRows_length (k : IntKind) (L : List (List Int)) : (slRows k L).length = L.length := by simp [slRows]
theorem bindO_slRows (k : IntKind) (L : List (List Int)) (n : Nat) (f : List DV → Prop) : bindO (slRows k L)[n]? f = (n < L.length ∧ f [.sl 1 (intRows k (L.getD n [])) .any]) := by
  by_cases h : n < L.length
  · simp [slRows, List.getElem?_eq_getElem h, bindO, h]
  · simp [slRows, List.getElem?_eq_none (Nat.le_of_not_lt h), bindO, h]

theorem dec_bd {q : List Int} (hq : inK .u8 q) : 0 ≤ (dec q).1 ∧ (dec q).1 ≤ 2097151 := by
  unfold dec
  split
  · exact ⟨by decide, by decide⟩
  · rename_i h0
    have hb := getD_lt hq (i := 0) (by omega)
    repeat' split
    all_goals simp only
    all_goals (try split)
    all_goals omega
theorem ustep_r {p : List Int} {b : Int} (hp : inK .u8 p) (hb : 0 ≤ b ∧ b ≤ 255) (hl : p.length ≤ 1000000) : ∀ r ∈ (ustep p b).2, 0 ≤ r ∧ r ≤ 2097151 := by
  have h1 : ∀ r ∈ (one b).2, 0 ≤ r ∧ r ≤ 2097151 := by
    intro r hr
    unfold one at hr
    split at hr
    · simp at hr; omega
    · split at hr
      · simp at hr
      · simp at hr; omega
  have hq : inK .u8 (p ++ [b]) := hp.append (inK_u8 (by simp) (by simpa using hb)) (by simp; omega)
  intro r hr
  rw [ustep_eq hb] at hr
  split at hr
  · exact h1 r hr
  · split at hr
    · rename_i r' hg
      simp at hr
      subst hr
      unfold good at hg
      split at hg
      · obtain rfl := Option.some.inj hg
        exact dec_bd hq
      · cases hg
    · split at hr
      · simp at hr
      · rcases List.mem_cons.1 hr with rfl | hr
        · exact ⟨by decide, by decide⟩
        · exact h1 r hr
theorem uallF_r {l : List Int} (h : inK .u8 l) : ∀ i, i ≤ l.length → ∀ r ∈ (uallF (l.take i)).1, 0 ≤ r ∧ r ≤ 2097151
  | 0, _ => by simp [uallF]
  | i + 1, hi => by
    intro r hr
    rw [List.take_succ_eq_append_getElem (by omega), uallF_snoc] at hr
    rcases List.mem_append.1 hr with h1 | h1
    · exact uallF_r h i (by omega) r h1
    · obtain ⟨g1, g2, _⟩ := uallF_take h i (by omega)
      exact ustep_r g1 (h.u8 (List.getElem_mem (by omega))) (by omega) r h1
theorem uallF_in {l : List Int} (h : inK .u8 l) (hl : l.length ≤ 10000000) : inK .i32 (uallF l).1 := by
  have h1 := uallF_r h l.length (Nat.le_refl _)
  obtain ⟨_, _, h2⟩ := uallF_take h l.length (Nat.le_refl _)
  rw [List.take_length] at h1 h2
  exact inK_i32 (by omega) fun n hn => by have := h1 n hn; omega

noncomputable def rc_utfEdges_l0 : RC := (.seq (.reg [⟨(some 63), (.bin .lss (.t 62) (.t 61)), none, false⟩] 0 [60, 61, 62, 63]) (.seq (.cond (.t 63) .skip (.ext 0)) (.seq (.blk 1 (.seq (.reg [⟨(some 64), (.iaddr 1 (.t 60) (.t 62)), none, false⟩, ⟨(some 65), (.load false 1 (.t 64)), none, false⟩, ⟨(some 10), (.mov (.t 65)), none, false⟩] 0 [10, 60, 61, 62]) (.seq (.seq (.reg [⟨(some 66), (.mov (.t 10)), none, false⟩, ⟨(some 67), (.call 19 [(.t 66)]), none, false⟩, ⟨(some 68), (.mov (.t 10)), none, false⟩, ⟨(some 69), (.call 20 [(.t 68)]), none, false⟩, ⟨(some 70), (.eqB true (.t 67) (.t 69)), none, false⟩] 0 [10, 60, 61, 62, 70]) (.cond (.t 70) (.seq (.reg [⟨(some 8), (.mov (.c (.bool false))), none, false⟩] 0 [8]) .ret) .skip)) (.seq (.reg [⟨(some 72), (.mov (.t 10)), none, false⟩, ⟨(some 73), (.call 14 [(.t 72)]), none, false⟩, ⟨(some 71), (.mov (.t 73)), none, false⟩, ⟨(some 74), (.ext (.t 71) 0), none, false⟩, ⟨(some 75), (.ext (.t 71) 1), none, false⟩, ⟨(some 11), (.mov (.t 74)), none, false⟩, ⟨(some 12), (.mov (.t 75)), none, false⟩] 0 [10, 11, 12, 60, 61, 62]) (.seq (.reg [⟨(some 77), (.mov (.t 10)), none, false⟩, ⟨(some 78), (.call 15 [(.t 77)]), none, false⟩, ⟨(some 76), (.mov (.t 78)), none, false⟩, ⟨(some 79), (.ext (.t 76) 0), none, false⟩, ⟨(some 80), (.ext (.t 76) 1), none, false⟩, ⟨(some 13), (.mov (.t 79)), none, false⟩, ⟨(some 14), (.mov (.t 80)), none, false⟩] 0 [11, 12, 13, 14, 60, 61, 62]) (.seq (.reg [⟨(some 81), (.mov (.t 11)), none, false⟩, ⟨(some 82), (.mov (.t 13)), none, false⟩, ⟨(some 83), (.call 16 [(.t 81), (.t 82)]), none, false⟩, ⟨(some 84), (.un .not (.t 83)), none, false⟩, ⟨(some 85), (.mov (.t 84)), none, false⟩, ⟨(some 86), (.mov (.t 12)), (some (85, false)), false⟩, ⟨(some 87), (.conv .b2s (.t 86)), (some (85, false)), false⟩, ⟨(some 88), (.mov (.t 14)), (some (85, false)), false⟩, ⟨(some 89), (.conv .b2s (.t 88)), (some (85, false)), false⟩, ⟨(some 90), (.bin .neq (.t 87) (.t 89)), (some (85, false)), false⟩, ⟨(some 91), (.pick (.t 85) (.c (.bool true)) (.t 90)), none, false⟩] 0 [60, 61, 62, 91]) (.cond (.t 91) (.seq (.reg [⟨(some 8), (.mov (.c (.bool false))), none, false⟩] 0 [8]) .ret) .skip))))))) (.reg [⟨(some 92), (.bin .add (.t 62) (.c (.int .i64 1))), none, false⟩, ⟨(some 62), (.mov (.t 92)), none, false⟩] 0 [60, 61, 62]))))
noncomputable def rc_utfEdges : RFn := ⟨4, 93, (.seq (.reg [⟨(some 8), (.mov (.c (.bool false))), none, false⟩] 0 [0, 1, 2, 3]) (.seq (.seq (.reg [⟨(some 15), (.call 12 []), none, false⟩, ⟨(some 16), (.un .not (.t 15)), none, false⟩] 0 [0, 1, 2, 3, 16]) (.cond (.t 16) (.seq (.reg [⟨(some 8), (.mov (.c (.bool false))), none, false⟩] 0 [8]) .ret) .skip)) (.seq (.seq (.reg [⟨(some 17), (.mov (.t 0)), none, false⟩, ⟨(some 18), (.mkrow 1 [(.int .u8 0)] 1 [(0, (.t 17))]), none, true⟩, ⟨(some 19), (.mov (.t 0)), none, false⟩, ⟨(some 20), (.mov (.t 1)), none, false⟩, ⟨(some 21), (.mkrow 1 [(.int .u8 0)] 2 [(0, (.t 19)), (1, (.t 20))]), none, true⟩, ⟨(some 22), (.mov (.t 0)), none, false⟩, ⟨(some 23), (.mov (.t 1)), none, false⟩, ⟨(some 24), (.mov (.t 2)), none, false⟩, ⟨(some 25), (.mkrow 1 [(.int .u8 0)] 3 [(0, (.t 22)), (1, (.t 23)), (2, (.t 24))]), none, true⟩, ⟨(some 26), (.mov (.t 0)), none, false⟩, ⟨(some 27), (.mov (.t 1)), none, false⟩, ⟨(some 28), (.mov (.t 2)), none, false⟩, ⟨(some 29), (.mov (.t 3)), none, false⟩, ⟨(some 30), (.mkrow 1 [(.int .u8 0)] 4 [(0, (.t 26)), (1, (.t 27)), (2, (.t 28)), (3, (.t 29))]), none, true⟩, ⟨(some 31), (.mov (.t 0)), none, false⟩, ⟨(some 32), (.bin .and (.t 31) (.c (.int .u8 15))), none, false⟩, ⟨(some 33), (.bin .or (.c (.int .u8 224)) (.t 32)), none, false⟩, ⟨(some 34), (.mov (.t 1)), none, false⟩, ⟨(some 35), (.mov (.t 2)), none, false⟩, ⟨(some 36), (.mkrow 1 [(.int .u8 0)] 3 [(0, (.t 33)), (1, (.t 34)), (2, (.t 35))]), none, true⟩, ⟨(some 37), (.mov (.t 0)), none, false⟩, ⟨(some 38), (.bin .and (.t 37) (.c (.int .u8 7))), none, false⟩, ⟨(some 39), (.bin .or (.c (.int .u8 240)) (.t 38)), none, false⟩, ⟨(some 40), (.mov (.t 1)), none, false⟩, ⟨(some 41), (.mov (.t 2)), none, false⟩, ⟨(some 42), (.mkrow 1 [(.int .u8 0)] 3 [(0, (.t 39)), (1, (.t 40)), (2, (.t 41))]), none, true⟩, ⟨(some 43), (.mov (.t 0)), none, false⟩, ⟨(some 44), (.bin .and (.t 43) (.c (.int .u8 7))), none, false⟩, ⟨(some 45), (.bin .or (.c (.int .u8 240)) (.t 44)), none, false⟩, ⟨(some 46), (.mov (.t 1)), none, false⟩, ⟨(some 47), (.bin .and (.t 46) (.c (.int .u8 63))), none, false⟩, ⟨(some 48), (.bin .or (.c (.int .u8 128)) (.t 47)), none, false⟩, ⟨(some 49), (.mov (.t 2)), none, false⟩, ⟨(some 50), (.bin .and (.t 49) (.c (.int .u8 63))), none, false⟩, ⟨(some 51), (.bin .or (.c (.int .u8 128)) (.t 50)), none, false⟩, ⟨(some 52), (.mkrow 1 [(.int .u8 0)] 3 [(0, (.t 45)), (1, (.t 48)), (2, (.t 51))]), none, true⟩, ⟨(some 53), (.mov (.t 0)), none, false⟩, ⟨(some 54), (.bin .and (.t 53) (.c (.int .u8 15))), none, false⟩, ⟨(some 55), (.bin .or (.c (.int .u8 224)) (.t 54)), none, false⟩, ⟨(some 56), (.mov (.t 1)), none, false⟩, ⟨(some 57), (.bin .and (.t 56) (.c (.int .u8 63))), none, false⟩, ⟨(some 58), (.bin .or (.c (.int .u8 128)) (.t 57)), none, false⟩, ⟨(some 59), (.mkrow 1 [(.int .u8 0)] 2 [(0, (.t 55)), (1, (.t 58))]), none, true⟩, ⟨(some 60), (.mkrow 1 [(.sl 0 [] .nil)] 8 [(0, (.t 18)), (1, (.t 21)), (2, (.t 25)), (3, (.t 30)), (4, (.t 36)), (5, (.t 42)), (6, (.t 52)), (7, (.t 59))]), none, true⟩, ⟨(some 61), (.len (.t 60)), none, false⟩, ⟨(some 62), (.mov (.c (.int .i64 0))), none, false⟩] 0 [60, 61, 62]) (.blk 0 (.loop rc_utfEdges_l0))) (.seq (.reg [⟨(some 8), (.mov (.c (.bool true))), none, false⟩] 0 [8]) .ret)))), [(.t 8)]⟩
theorem rc_utfEdges_ok : compFn PG.P [⟨0, 0, [0, 1, 2, 3], []⟩, ⟨1, 0, [0, 1, 2, 3, 16], []⟩, ⟨2, 0, [8], []⟩, ⟨3, 0, [60, 61, 62], [18, 21, 25, 30, 36, 42, 52, 59, 60]⟩, ⟨4, 0, [60, 61, 62, 63], []⟩, ⟨5, 0, [10, 60, 61, 62], []⟩, ⟨6, 0, [10, 60, 61, 62, 70], []⟩, ⟨7, 0, [8], []⟩, ⟨8, 0, [10, 11, 12, 60, 61, 62], []⟩, ⟨9, 0, [11, 12, 13, 14, 60, 61, 62], []⟩, ⟨10, 0, [60, 61, 62, 91], []⟩, ⟨11, 0, [8], []⟩, ⟨12, 0, [60, 61, 62], []⟩, ⟨13, 0, [8], []⟩] 4 = some rc_utfEdges := by kernel_rfl
def edges (a b c d : Int) : List (List Int) := [[a], [a, b], [a, b, c], [a, b, c, d],
  [IntKind.u8.wrap ↑(BitVec.ofInt IntKind.u8.bits 224 ||| BitVec.ofInt IntKind.u8.bits (a % 16)).toNat, b, c],
  [IntKind.u8.wrap ↑(BitVec.ofInt IntKind.u8.bits 240 ||| BitVec.ofInt IntKind.u8.bits (a % 8)).toNat, b, c],
  [IntKind.u8.wrap ↑(BitVec.ofInt IntKind.u8.bits 240 ||| BitVec.ofInt IntKind.u8.bits (a % 8)).toNat, IntKind.u8.wrap ↑(BitVec.ofInt IntKind.u8.bits 128 ||| BitVec.ofInt IntKind.u8.bits (b % 64)).toNat,
    IntKind.u8.wrap ↑(BitVec.ofInt IntKind.u8.bits 128 ||| BitVec.ofInt IntKind.u8.bits (c % 64)).toNat],
  [IntKind.u8.wrap ↑(BitVec.ofInt IntKind.u8.bits 224 ||| BitVec.ofInt IntKind.u8.bits (a % 16)).toNat, IntKind.u8.wrap ↑(BitVec.ofInt IntKind.u8.bits 128 ||| BitVec.ofInt IntKind.u8.bits (b % 64)).toNat]]
theorem u8_wrap_in (x : Int) : IntKind.u8.min ≤ IntKind.u8.wrap x ∧ IntKind.u8.wrap x ≤ IntKind.u8.max := by
  rw [IntKind.wrap_u8]
  have h1 : IntKind.u8.min = 0 := by decide
  have h2 : IntKind.u8.max = 255 := by decide
  rw [h1, h2]
  omega
theorem edges_in {a b c d : Int} (ha : IntKind.u8.min ≤ a ∧ a ≤ IntKind.u8.max) (hb : IntKind.u8.min ≤ b ∧ b ≤ IntKind.u8.max) (hc : IntKind.u8.min ≤ c ∧ c ≤ IntKind.u8.max) (hd : IntKind.u8.min ≤ d ∧ d ≤ IntKind.u8.max) :
    ∀ l ∈ edges a b c d, inK .u8 l ∧ l.length ≤ 4 := by
  intro l hl
  simp only [edges, List.mem_cons, List.not_mem_nil, or_false] at hl
  rcases hl with rfl | rfl | rfl | rfl | rfl | rfl | rfl | rfl <;> refine ⟨⟨by simp, ?_⟩, by simp⟩ <;> intro n hn <;> simp only [List.mem_cons, List.not_mem_nil, or_false] at hn <;> (try rcases hn with rfl | hn) <;> (try rcases hn with rfl | hn) <;> (try rcases hn with rfl | hn) <;> (try subst hn) <;> first | assumption | exact u8_wrap_in _
theorem utfEdges_true (dv : List DV) (h : ConfL [(false, [.int .u8]), (false, [.int .u8]), (false, [.int .u8]), (false, [.int .u8])] dv) : PCalls PG 4 dv fun _ r _ => r = .bool true := by
  obtain ⟨a0, r, rfl, h0, h⟩ := h.cons
  obtain ⟨b0, r, rfl, h1, h⟩ := h.cons
  obtain ⟨c0, r, rfl, h2, h⟩ := h.cons
  obtain ⟨d0, r, rfl, h3, h⟩ := h.cons
  obtain rfl := h.nil
  obtain ⟨a, rfl, ha⟩ := confA_int h0
  obtain ⟨b, rfl, hb⟩ := confA_int h1
  obtain ⟨c, rfl, hc⟩ := confA_int h2
  obtain ⟨d, rfl, hd⟩ := confA_int h3
  have hin := edges_in ha hb hc hd
  refine (PCalls.by_fn (res := fun n => (.bool true, [])) T16_ok rc_utfEdges_ok (by simp [rc_utfEdges]) fun n => ?_).mono fun _ _ _ h => h.1
  unfold rc_utfEdges
  dsimp only
  simp -implicitDefEqProofs only [T16_b, and7_u8, and15_u8, and31_u8, and63_u8, vcA1, vcA2, vcA3, vcA4, vcA5, vcA6, vcA7, ↓vcP1, ↓vcP2, ↓reduceIte, Option.map_some, Option.map_none, Option.bind_some, Option.bind_none, if_true, if_false, reduceCtorEq, beq_true, beq_false, Bool.not_true, Bool.not_false, BEq.rfl, Bool.true_beq, Bool.false_beq, and_true, true_and, and_self, decide_true, decide_false, List.length_cons, List.length_nil, List.all_cons, List.all_nil, Bool.and_true, Bool.and_self, List.getElem?_cons_zero, List.getElem?_cons_succ, List.set_cons_zero, List.set_cons_succ, List.nil_append, List.cons_append, List.append_nil, List.map_cons, List.map_nil, not_true_eq_false, not_false_eq_true, false_implies, true_implies, implies_true, List.take_succ_cons, List.take_zero, List.take_nil, List.drop_succ_cons, List.drop_zero, List.drop_nil, Nat.reduceLT, Nat.reduceLeDiff, Nat.reduceEqDiff, Nat.reduceAdd, Nat.reduceSub, Nat.reduceMul, Int.reduceLT, Int.reduceLE, Int.reduceEq, Int.reduceToNat, Int.reduceAdd, Int.reduceSub, Int.reduceNeg, List.reduceReplicate, List.replicate_zero, List.replicate_succ, ne_eq, List.flatMap_cons, List.flatMap_nil, List.length_replicate, List.length_append, Nat.le_refl, Nat.le_add_right, Nat.add_assoc, List.append_assoc, or_true, true_or, or_false, false_or, and_false, false_and, exists_eq_left, exists_eq_left', Option.some.injEq, DV.int.injEq, DV.bool.injEq, DV.sl.injEq, DV.own.injEq, DV.tup.injEq, List.cons.injEq, Ob.arr.injEq, Ob.box.injEq, Option.map_map, Int.toNat_natCast, Int.toNat_zero, Nat.reducePow, Int.toNat_one, Int.reduceMul, Nat.mul_one, Nat.zero_add, Nat.add_zero, Function.comp_apply, List.map_append, List.map_replicate, Int.cast_ofNat_Int, Nat.left_eq_add, Nat.add_eq_left, Nat.add_left_cancel_iff]
  refine LoopWp.invR T16_ok (S := fun m (i : Nat) => ⟨[(60, .sl 1 (slRows .u8 (edges a b c d)) .any), (61, .int .i64 8), (62, .int .i64 i)], List.replicate m none⟩) (I := fun i => i ≤ 8) (μ := fun i => 8 - i) n 0 (by omega) ?_ ?_
  · simp -implicitDefEqProofs only [vcA1, vcA2, vcA3, vcA4, vcA5, vcA6, vcA7, ↓vcP1, ↓vcP2, ↓reduceIte, Option.map_some, Option.map_none, Option.bind_some, Option.bind_none, if_true, if_false, reduceCtorEq, beq_true, beq_false, Bool.not_true, Bool.not_false, BEq.rfl, Bool.true_beq, Bool.false_beq, and_true, true_and, and_self, decide_true, decide_false, List.length_cons, List.length_nil, List.all_cons, List.all_nil, Bool.and_true, Bool.and_self, List.getElem?_cons_zero, List.getElem?_cons_succ, List.set_cons_zero, List.set_cons_succ, List.nil_append, List.cons_append, List.append_nil, List.map_cons, List.map_nil, not_true_eq_false, not_false_eq_true, false_implies, true_implies, implies_true, List.take_succ_cons, List.take_zero, List.take_nil, List.drop_succ_cons, List.drop_zero, List.drop_nil, Nat.reduceLT, Nat.reduceLeDiff, Nat.reduceEqDiff, Nat.reduceAdd, Nat.reduceSub, Nat.reduceMul, Int.reduceLT, Int.reduceLE, Int.reduceEq, Int.reduceToNat, Int.reduceAdd, Int.reduceSub, Int.reduceNeg, List.reduceReplicate, List.replicate_zero, List.replicate_succ, ne_eq, List.flatMap_cons, List.flatMap_nil, List.length_replicate, List.length_append, Nat.le_refl, Nat.le_add_right, Nat.add_assoc, List.append_assoc, or_true, true_or, or_false, false_or, and_false, false_and, exists_eq_left, exists_eq_left', Option.some.injEq, DV.int.injEq, DV.bool.injEq, DV.sl.injEq, DV.own.injEq, DV.tup.injEq, List.cons.injEq, Ob.arr.injEq, Ob.box.injEq, Option.map_map, Int.toNat_natCast, Int.toNat_zero, Nat.reducePow, Int.toNat_one, Int.reduceMul, Nat.mul_one, Nat.zero_add, Nat.add_zero, Function.comp_apply, List.map_append, List.map_replicate, Int.cast_ofNat_Int, Nat.left_eq_add, Nat.add_eq_left, Nat.add_left_cancel_iff]
    rfl
  · intro m i hm hi
    have hlen : (edges a b c d).length = 8 := rfl
    unfold rc_utfEdges_l0
    simp -implicitDefEqProofs only [T16_b, slRows_length, bindO_slRows, hlen, vcA1, vcA2, vcA3, vcA4, vcA5, vcA6, vcA7, ↓vcP1, ↓vcP2, ↓reduceIte, Option.map_some, Option.map_none, Option.bind_some, Option.bind_none, if_true, if_false, reduceCtorEq, beq_true, beq_false, Bool.not_true, Bool.not_false, BEq.rfl, Bool.true_beq, Bool.false_beq, and_true, true_and, and_self, decide_true, decide_false, List.length_cons, List.length_nil, List.all_cons, List.all_nil, Bool.and_true, Bool.and_self, List.getElem?_cons_zero, List.getElem?_cons_succ, List.set_cons_zero, List.set_cons_succ, List.nil_append, List.cons_append, List.append_nil, List.map_cons, List.map_nil, not_true_eq_false, not_false_eq_true, false_implies, true_implies, implies_true, List.take_succ_cons, List.take_zero, List.take_nil, List.drop_succ_cons, List.drop_zero, List.drop_nil, Nat.reduceLT, Nat.reduceLeDiff, Nat.reduceEqDiff, Nat.reduceAdd, Nat.reduceSub, Nat.reduceMul, Int.reduceLT, Int.reduceLE, Int.reduceEq, Int.reduceToNat, Int.reduceAdd, Int.reduceSub, Int.reduceNeg, List.reduceReplicate, List.replicate_zero, List.replicate_succ, ne_eq, List.flatMap_cons, List.flatMap_nil, List.length_replicate, List.length_append, Nat.le_refl, Nat.le_add_right, Nat.add_assoc, List.append_assoc, or_true, true_or, or_false, false_or, and_false, false_and, exists_eq_left, exists_eq_left', Option.some.injEq, DV.int.injEq, DV.bool.injEq, DV.sl.injEq, DV.own.injEq, DV.tup.injEq, List.cons.injEq, Ob.arr.injEq, Ob.box.injEq, Option.map_map, Int.toNat_natCast, Int.toNat_zero, Nat.reducePow, Int.toNat_one, Int.reduceMul, Nat.mul_one, Nat.zero_add, Nat.add_zero, Function.comp_apply, List.map_append, List.map_replicate, Int.cast_ofNat_Int, Nat.left_eq_add, Nat.add_eq_left, Nat.add_left_cancel_iff]
    refine ⟨fun h => ?_, fun h => hm⟩
    have hi8 : i < 8 := by omega
    have hmem : (edges a b c d).getD i [] ∈ edges a b c d := by
      rw [List.getD_eq_getElem?_getD, List.getElem?_eq_getElem (by omega)]
      exact List.getElem_mem _
    obtain ⟨g1, g2⟩ := hin _ hmem
    exact ⟨⟨by omega, h⟩, hi8, g1, g1, ⟨g1, by omega⟩, ⟨g1, by omega⟩, uallF_in g1 (by omega), hm, i + 1, by rw [wI64] <;> omega, by omega, by omega⟩
end Go.Proofs.YteemmpghpdaloaaDoor
end
section
/- 'UtfTells'. -/
set_option linter.unusedVariables false
set_option linter.unusedSimpArgs false
set_option maxRecDepth 10000
namespace Go.Proofs.YteemmpghpdaloaaDoor
open Go.RowKit
theorem b2n {a b : List Int} (h : a = b) : (List.map (fun n => UInt8.ofNat n.toNat) a == List.map (fun n => UInt8.ofNat n.toNat) b) = true := by subst h; simp

noncomputable def rc_utfTells_l0 : RC := (.seq (.seq (.reg [⟨(some 72), (.mov (.t 18)), none, false⟩, ⟨(some 73), (.mov (.t 12)), none, false⟩, ⟨(some 74), (.len (.t 73)), none, false⟩, ⟨(some 75), (.bin .lss (.t 72) (.t 74)), none, false⟩] 0 [2, 3, 4, 12, 17, 18, 45, 46, 47, 75]) (.cond (.t 75) .skip (.ext 2))) (.seq (.blk 3 (.seq (.reg [⟨(some 79), (.mov (.t 17)), none, false⟩, ⟨(some 80), (.mov (.t 12)), none, false⟩, ⟨(some 81), (.mov (.t 18)), none, false⟩, ⟨(some 82), (.iaddr 1 (.t 80) (.t 81)), none, false⟩, ⟨(some 83), (.load false 1 (.t 82)), none, false⟩, ⟨(some 84), (.call 17 [(.t 79), (.t 83)]), none, false⟩, ⟨(some 78), (.mov (.t 84)), none, false⟩, ⟨(some 85), (.ext (.t 78) 0), none, false⟩, ⟨(some 86), (.ext (.t 78) 1), none, false⟩, ⟨(some 19), (.mov (.t 85)), none, false⟩, ⟨(some 20), (.mov (.t 86)), none, false⟩] 0 [2, 3, 4, 12, 17, 18, 19, 20, 45, 46, 47]) (.seq (.reg [⟨(some 88), (.mov (.t 17)), none, false⟩, ⟨(some 89), (.mov (.t 12)), none, false⟩, ⟨(some 90), (.mov (.t 18)), none, false⟩, ⟨(some 91), (.iaddr 1 (.t 89) (.t 90)), none, false⟩, ⟨(some 92), (.load false 1 (.t 91)), none, false⟩, ⟨(some 93), (.call 18 [(.t 88), (.t 92)]), none, false⟩, ⟨(some 87), (.mov (.t 93)), none, false⟩, ⟨(some 94), (.ext (.t 87) 0), none, false⟩, ⟨(some 95), (.ext (.t 87) 1), none, false⟩, ⟨(some 21), (.mov (.t 94)), none, false⟩, ⟨(some 22), (.mov (.t 95)), none, false⟩] 0 [2, 3, 4, 12, 18, 19, 20, 21, 22, 45, 46, 47]) (.seq (.seq (.reg [⟨(some 96), (.mov (.t 19)), none, false⟩, ⟨(some 97), (.conv .b2s (.t 96)), none, false⟩, ⟨(some 98), (.mov (.t 21)), none, false⟩, ⟨(some 99), (.conv .b2s (.t 98)), none, false⟩, ⟨(some 100), (.bin .neq (.t 97) (.t 99)), none, false⟩, ⟨(some 101), (.mov (.t 100)), none, false⟩, ⟨(some 102), (.mov (.t 20)), (some (101, false)), false⟩, ⟨(some 103), (.mov (.t 22)), (some (101, false)), false⟩, ⟨(some 104), (.call 16 [(.t 102), (.t 103)]), (some (101, false)), false⟩, ⟨(some 105), (.un .not (.t 104)), (some (101, false)), false⟩, ⟨(some 106), (.pick (.t 101) (.c (.bool true)) (.t 105)), none, false⟩] 0 [2, 3, 4, 12, 18, 21, 45, 46, 47, 106]) (.cond (.t 106) (.seq (.reg [⟨(some 10), (.mov (.c (.bool false))), none, false⟩] 0 [10]) .ret) .skip)) (.reg [⟨(some 107), (.mov (.t 21)), none, false⟩, ⟨(some 17), (.mov (.t 107)), none, false⟩] 0 [2, 3, 4, 12, 17, 18, 45, 46, 47]))))) (.reg [⟨(some 76), (.mov (.t 18)), none, false⟩, ⟨(some 77), (.bin .add (.t 76) (.c (.int .i64 1))), none, false⟩, ⟨(some 18), (.mov (.t 77)), none, false⟩] 0 [2, 3, 4, 12, 17, 18, 45, 46, 47])))
noncomputable def rc_utfTells_l1 : RC := (.seq (.reg [⟨(some 48), (.bin .lss (.t 47) (.t 46)), none, false⟩] 0 [2, 3, 4, 45, 46, 47, 48]) (.seq (.cond (.t 48) .skip (.ext 0)) (.seq (.blk 1 (.seq (.reg [⟨(some 49), (.iaddr 1 (.t 45) (.t 47)), none, false⟩, ⟨(some 50), (.load false 1 (.t 49)), none, false⟩, ⟨(some 12), (.mov (.t 50)), none, false⟩] 0 [2, 3, 4, 12, 45, 46, 47]) (.seq (.reg [⟨(some 52), (.mov (.t 12)), none, false⟩, ⟨(some 53), (.call 14 [(.t 52)]), none, false⟩, ⟨(some 51), (.mov (.t 53)), none, false⟩, ⟨(some 54), (.ext (.t 51) 0), none, false⟩, ⟨(some 55), (.ext (.t 51) 1), none, false⟩, ⟨(some 13), (.mov (.t 54)), none, false⟩, ⟨(some 14), (.mov (.t 55)), none, false⟩] 0 [2, 3, 4, 12, 13, 14, 45, 46, 47]) (.seq (.reg [⟨(some 57), (.mov (.t 12)), none, false⟩, ⟨(some 58), (.call 15 [(.t 57)]), none, false⟩, ⟨(some 56), (.mov (.t 58)), none, false⟩, ⟨(some 59), (.ext (.t 56) 0), none, false⟩, ⟨(some 60), (.ext (.t 56) 1), none, false⟩, ⟨(some 15), (.mov (.t 59)), none, false⟩, ⟨(some 16), (.mov (.t 60)), none, false⟩] 0 [2, 3, 4, 12, 13, 14, 15, 16, 45, 46, 47]) (.seq (.seq (.reg [⟨(some 61), (.mov (.t 13)), none, false⟩, ⟨(some 62), (.mov (.t 15)), none, false⟩, ⟨(some 63), (.call 16 [(.t 61), (.t 62)]), none, false⟩, ⟨(some 64), (.un .not (.t 63)), none, false⟩, ⟨(some 65), (.mov (.t 64)), none, false⟩, ⟨(some 66), (.mov (.t 14)), (some (65, false)), false⟩, ⟨(some 67), (.conv .b2s (.t 66)), (some (65, false)), false⟩, ⟨(some 68), (.mov (.t 16)), (some (65, false)), false⟩, ⟨(some 69), (.conv .b2s (.t 68)), (some (65, false)), false⟩, ⟨(some 70), (.bin .neq (.t 67) (.t 69)), (some (65, false)), false⟩, ⟨(some 71), (.pick (.t 65) (.c (.bool true)) (.t 70)), none, false⟩] 0 [2, 3, 4, 12, 45, 46, 47, 71]) (.cond (.t 71) (.seq (.reg [⟨(some 10), (.mov (.c (.bool false))), none, false⟩] 0 [10]) .ret) .skip)) (.seq (.reg [⟨(some 17), (.mov (.c (.sl 0 [] .nil))), none, false⟩] 0 [2, 3, 4, 12, 17, 45, 46, 47]) (.seq (.reg [⟨(some 18), (.mov (.c (.int .i64 0))), none, false⟩] 0 [2, 3, 4, 12, 17, 18, 45, 46, 47]) (.blk 2 (.loop rc_utfTells_l0))))))))) (.reg [⟨(some 108), (.bin .add (.t 47) (.c (.int .i64 1))), none, false⟩, ⟨(some 47), (.mov (.t 108)), none, false⟩] 0 [2, 3, 4, 45, 46, 47]))))
noncomputable def rc_utfTells : RFn := ⟨5, 147, (.seq (.reg [⟨(some 10), (.mov (.c (.bool false))), none, false⟩] 0 [0, 1, 2, 3, 4]) (.seq (.seq (.reg [⟨(some 27), (.call 12 []), none, false⟩, ⟨(some 28), (.un .not (.t 27)), none, false⟩] 0 [0, 1, 2, 3, 4, 28]) (.cond (.t 28) (.seq (.reg [⟨(some 10), (.mov (.c (.bool false))), none, false⟩] 0 [10]) .ret) .skip)) (.seq (.seq (.reg [⟨(some 29), (.mov (.t 0)), none, false⟩, ⟨(some 30), (.len (.t 29)), none, false⟩, ⟨(some 31), (.bin .gtr (.t 30) (.c (.int .i64 100))), none, false⟩, ⟨(some 32), (.mov (.t 31)), none, false⟩, ⟨(some 33), (.mov (.t 1)), (some (32, false)), false⟩, ⟨(some 34), (.len (.t 33)), (some (32, false)), false⟩, ⟨(some 35), (.bin .gtr (.t 34) (.c (.int .i64 40))), (some (32, false)), false⟩, ⟨(some 36), (.pick (.t 32) (.c (.bool true)) (.t 35)), none, false⟩, ⟨(some 37), (.mov (.t 36)), none, false⟩, ⟨(some 38), (.mov (.t 2)), (some (37, false)), false⟩, ⟨(some 39), (.len (.t 38)), (some (37, false)), false⟩, ⟨(some 40), (.bin .gtr (.t 39) (.c (.int .i64 6))), (some (37, false)), false⟩, ⟨(some 41), (.pick (.t 37) (.c (.bool true)) (.t 40)), none, false⟩] 0 [0, 1, 2, 3, 4, 41]) (.cond (.t 41) (.seq (.reg [⟨(some 10), (.mov (.c (.bool true))), none, false⟩] 0 [10]) .ret) .skip)) (.seq (.seq (.reg [⟨(some 42), (.mov (.t 0)), none, false⟩, ⟨(some 43), (.mov (.t 1)), none, false⟩, ⟨(some 44), (.call 13 [(.t 43)]), none, false⟩, ⟨(some 45), (.mkrow 1 [(.sl 0 [] .nil)] 2 [(0, (.t 42)), (1, (.t 44))]), none, true⟩, ⟨(some 46), (.len (.t 45)), none, false⟩, ⟨(some 47), (.mov (.c (.int .i64 0))), none, false⟩] 0 [2, 3, 4, 45, 46, 47]) (.blk 0 (.loop rc_utfTells_l1))) (.seq (.reg [⟨(some 110), (.mov (.t 2)), none, false⟩, ⟨(some 111), (.mov (.t 3)), none, false⟩, ⟨(some 112), (.call 17 [(.t 110), (.t 111)]), none, false⟩, ⟨(some 109), (.mov (.t 112)), none, false⟩, ⟨(some 113), (.ext (.t 109) 0), none, false⟩, ⟨(some 114), (.ext (.t 109) 1), none, false⟩, ⟨(some 23), (.mov (.t 113)), none, false⟩, ⟨(some 24), (.mov (.t 114)), none, false⟩] 0 [2, 3, 4, 23, 24]) (.seq (.reg [⟨(some 116), (.mov (.t 2)), none, false⟩, ⟨(some 117), (.mov (.t 3)), none, false⟩, ⟨(some 118), (.call 18 [(.t 116), (.t 117)]), none, false⟩, ⟨(some 115), (.mov (.t 118)), none, false⟩, ⟨(some 119), (.ext (.t 115) 0), none, false⟩, ⟨(some 120), (.ext (.t 115) 1), none, false⟩, ⟨(some 25), (.mov (.t 119)), none, false⟩, ⟨(some 26), (.mov (.t 120)), none, false⟩] 0 [2, 4, 23, 24, 25, 26]) (.seq (.regD (.take ⟨(some 121), (.mov (.t 23)), none, false⟩ [] (.take ⟨(some 122), (.conv .b2s (.t 121)), none, false⟩ [] (.take ⟨(some 123), (.mov (.t 25)), none, false⟩ [] (.take ⟨(some 124), (.conv .b2s (.t 123)), none, false⟩ [] (.take ⟨(some 125), (.bin .eql (.t 122) (.t 124)), none, false⟩ [] (.take ⟨(some 126), (.mov (.t 125)), none, false⟩ [] (.take ⟨(some 127), (.mov (.t 24)), (some (126, true)), false⟩ [] (.take ⟨(some 128), (.mov (.t 26)), (some (126, true)), false⟩ [] (.op ⟨(some 129), (.call 16 [(.t 127), (.t 128)]), (some (126, true)), false⟩ (.take ⟨(some 130), (.pick (.t 126) (.t 129) (.c (.bool false))), none, false⟩ [] (.take ⟨(some 131), (.mov (.t 130)), none, false⟩ [] (.take ⟨(some 132), (.mov (.t 2)), (some (131, true)), false⟩ [] (.take ⟨(some 134), (.mov (.t 2)), (some (131, true)), false⟩ [] (.op ⟨(some 133), (.call 19 [(.t 132)]), (some (131, true)), false⟩ (.op ⟨(some 135), (.call 20 [(.t 134)]), (some (131, true)), false⟩ (.take ⟨(some 136), (.eqB false (.t 133) (.t 135)), (some (131, true)), false⟩ [] (.take ⟨(some 137), (.pick (.t 131) (.t 136) (.c (.bool false))), none, false⟩ [] (.take ⟨(some 138), (.mov (.t 137)), none, false⟩ [] (.take ⟨(some 139), (.mov (.t 4)), (some (138, true)), false⟩ [] (.take ⟨(some 142), (.mov (.t 4)), (some (138, true)), false⟩ [] (.op ⟨(some 140), (.call 21 [(.t 139)]), (some (138, true)), false⟩ (.take ⟨(some 141), (.conv .b2s (.t 140)), (some (138, true)), false⟩ [] (.op ⟨(some 143), (.call 22 [(.t 142)]), (some (138, true)), false⟩ (.take ⟨(some 144), (.conv .b2s (.t 143)), (some (138, true)), false⟩ [] (.take ⟨(some 145), (.bin .eql (.t 141) (.t 144)), (some (138, true)), false⟩ [] (.take ⟨(some 146), (.pick (.t 138) (.t 145) (.c (.bool false))), none, false⟩ [] (.take ⟨(some 10), (.mov (.t 146)), none, false⟩ [] .done))))))))))))))))))))))))))) 0 [10]) .ret))))))), [(.t 10)]⟩
theorem rc_utfTells_ok : compFn PG.P [⟨0, 0, [0, 1, 2, 3, 4], []⟩, ⟨1, 0, [0, 1, 2, 3, 4, 28], []⟩, ⟨2, 0, [10], []⟩, ⟨3, 0, [0, 1, 2, 3, 4, 41], []⟩, ⟨4, 0, [10], []⟩, ⟨5, 0, [2, 3, 4, 45, 46, 47], [45]⟩, ⟨6, 0, [2, 3, 4, 45, 46, 47, 48], []⟩, ⟨7, 0, [2, 3, 4, 12, 45, 46, 47], []⟩, ⟨8, 0, [2, 3, 4, 12, 13, 14, 45, 46, 47], []⟩, ⟨9, 0, [2, 3, 4, 12, 13, 14, 15, 16, 45, 46, 47], []⟩, ⟨10, 0, [2, 3, 4, 12, 45, 46, 47, 71], []⟩, ⟨11, 0, [10], []⟩, ⟨12, 0, [2, 3, 4, 12, 17, 45, 46, 47], []⟩, ⟨13, 0, [2, 3, 4, 12, 17, 18, 45, 46, 47], []⟩, ⟨14, 0, [2, 3, 4, 12, 17, 18, 45, 46, 47, 75], []⟩, ⟨15, 0, [2, 3, 4, 12, 17, 18, 45, 46, 47], []⟩, ⟨16, 0, [2, 3, 4, 12, 17, 18, 19, 20, 45, 46, 47], []⟩, ⟨17, 0, [2, 3, 4, 12, 18, 19, 20, 21, 22, 45, 46, 47], []⟩, ⟨18, 0, [2, 3, 4, 12, 18, 21, 45, 46, 47, 106], []⟩, ⟨19, 0, [10], []⟩, ⟨20, 0, [2, 3, 4, 12, 17, 18, 45, 46, 47], []⟩, ⟨21, 0, [2, 3, 4, 45, 46, 47], []⟩, ⟨22, 0, [2, 3, 4, 23, 24], []⟩, ⟨23, 0, [2, 4, 23, 24, 25, 26], []⟩, ⟨24, 0, [10], []⟩] 3 = some rc_utfTells := by kernel_rfl
theorem utfTells_true (dv : List DV) (h : ConfL [(false, [.sl [.int .u8]]), (false, [.sl [.int .u8]]), (false, [.sl [.int .u8]]), (false, [.int .u8]), (false, [.int .i32])] dv) : PCalls PG 3 dv fun _ r _ => r = .bool true := by
  obtain ⟨a0, r, rfl, h0, h⟩ := h.cons
  obtain ⟨b0, r, rfl, h1, h⟩ := h.cons
  obtain ⟨c0, r, rfl, h2, h⟩ := h.cons
  obtain ⟨d0, r, rfl, h3, h⟩ := h.cons
  obtain ⟨e0, r, rfl, h4, h⟩ := h.cons
  obtain rfl := h.nil
  obtain ⟨raw, rfl, hraw⟩ := confA_ints h0
  obtain ⟨l, rfl, hl⟩ := confA_ints h1
  obtain ⟨pend, rfl, hpend⟩ := confA_ints h2
  obtain ⟨c, rfl, hc⟩ := confA_int h3
  obtain ⟨r, rfl, hr⟩ := confA_int h4
  refine (PCalls.by_fn (res := fun n => (.bool true, [])) T16_ok rc_utfTells_ok (by simp [rc_utfTells]) fun n => ?_).mono fun _ _ _ h => h.1
  unfold rc_utfTells
  dsimp only
  simp -implicitDefEqProofs only [T16_b, vcA1, vcA2, vcA3, vcA4, vcA5, vcA6, vcA7, ↓vcP1, ↓vcP2, ↓reduceIte, Option.map_some, Option.map_none, Option.bind_some, Option.bind_none, if_true, if_false, reduceCtorEq, beq_true, beq_false, Bool.not_true, Bool.not_false, BEq.rfl, Bool.true_beq, Bool.false_beq, and_true, true_and, and_self, decide_true, decide_false, List.length_cons, List.length_nil, List.all_cons, List.all_nil, Bool.and_true, Bool.and_self, List.getElem?_cons_zero, List.getElem?_cons_succ, List.set_cons_zero, List.set_cons_succ, List.nil_append, List.cons_append, List.append_nil, List.map_cons, List.map_nil, not_true_eq_false, not_false_eq_true, false_implies, true_implies, implies_true, List.take_succ_cons, List.take_zero, List.take_nil, List.drop_succ_cons, List.drop_zero, List.drop_nil, Nat.reduceLT, Nat.reduceLeDiff, Nat.reduceEqDiff, Nat.reduceAdd, Nat.reduceSub, Nat.reduceMul, Int.reduceLT, Int.reduceLE, Int.reduceEq, Int.reduceToNat, Int.reduceAdd, Int.reduceSub, Int.reduceNeg, List.reduceReplicate, List.replicate_zero, List.replicate_succ, ne_eq, List.flatMap_cons, List.flatMap_nil, List.length_replicate, List.length_append, Nat.le_refl, Nat.le_add_right, Nat.add_assoc, List.append_assoc, or_true, true_or, or_false, false_or, and_false, false_and, exists_eq_left, exists_eq_left', Option.some.injEq, DV.int.injEq, DV.bool.injEq, DV.sl.injEq, DV.own.injEq, DV.tup.injEq, List.cons.injEq, Ob.arr.injEq, Ob.box.injEq, Option.map_map, Int.toNat_natCast, Int.toNat_zero, Nat.reducePow, Int.toNat_one, Int.reduceMul, Nat.mul_one, Nat.zero_add, Nat.add_zero, Function.comp_apply, List.map_append, List.map_replicate, Int.cast_ofNat_Int, Nat.left_eq_add, Nat.add_eq_left, Nat.add_left_cancel_iff]
  refine fun g1 g2 g3 => ?_
  have hl1 : inK .u8 l := inK_of hl (by omega)
  have hr1 : inK .u8 raw := inK_of hraw (by omega)
  have hp1 : inK .u8 pend := inK_of hpend (by omega)
  have hs1 : inK .u8 (someF l) := someF_in l (by omega)
  have hs2 := someF_len l
  refine ⟨⟨hl1, by omega⟩, ?_⟩
  refine LoopWp.invR T16_ok (S := fun m (i : Nat) => ⟨[(2, .sl 1 (intRows .u8 pend) .any), (3, .int .u8 c), (4, .int .i32 r), (45, .sl 1 (slRows .u8 [raw, someF l]) .any), (46, .int .i64 2), (47, .int .i64 i)], List.replicate m none⟩) (I := fun i => i ≤ 2) (μ := fun i => 2 - i) n 0 (by omega) ?_ ?_
  · simp -implicitDefEqProofs only [vcA1, vcA2, vcA3, vcA4, vcA5, vcA6, vcA7, ↓vcP1, ↓vcP2, ↓reduceIte, Option.map_some, Option.map_none, Option.bind_some, Option.bind_none, if_true, if_false, reduceCtorEq, beq_true, beq_false, Bool.not_true, Bool.not_false, BEq.rfl, Bool.true_beq, Bool.false_beq, and_true, true_and, and_self, decide_true, decide_false, List.length_cons, List.length_nil, List.all_cons, List.all_nil, Bool.and_true, Bool.and_self, List.getElem?_cons_zero, List.getElem?_cons_succ, List.set_cons_zero, List.set_cons_succ, List.nil_append, List.cons_append, List.append_nil, List.map_cons, List.map_nil, not_true_eq_false, not_false_eq_true, false_implies, true_implies, implies_true, List.take_succ_cons, List.take_zero, List.take_nil, List.drop_succ_cons, List.drop_zero, List.drop_nil, Nat.reduceLT, Nat.reduceLeDiff, Nat.reduceEqDiff, Nat.reduceAdd, Nat.reduceSub, Nat.reduceMul, Int.reduceLT, Int.reduceLE, Int.reduceEq, Int.reduceToNat, Int.reduceAdd, Int.reduceSub, Int.reduceNeg, List.reduceReplicate, List.replicate_zero, List.replicate_succ, ne_eq, List.flatMap_cons, List.flatMap_nil, List.length_replicate, List.length_append, Nat.le_refl, Nat.le_add_right, Nat.add_assoc, List.append_assoc, or_true, true_or, or_false, false_or, and_false, false_and, exists_eq_left, exists_eq_left', Option.some.injEq, DV.int.injEq, DV.bool.injEq, DV.sl.injEq, DV.own.injEq, DV.tup.injEq, List.cons.injEq, Ob.arr.injEq, Ob.box.injEq, Option.map_map, Int.toNat_natCast, Int.toNat_zero, Nat.reducePow, Int.toNat_one, Int.reduceMul, Nat.mul_one, Nat.zero_add, Nat.add_zero, Function.comp_apply, List.map_append, List.map_replicate, Int.cast_ofNat_Int, Nat.left_eq_add, Nat.add_eq_left, Nat.add_left_cancel_iff]
    rfl
  · intro m i hm hi
    clear h h0 h1 h2 h3 h4
    unfold rc_utfTells_l1
    simp -implicitDefEqProofs only [T16_b, slRows_length, bindO_slRows, vcA1, vcA2, vcA3, vcA4, vcA5, vcA6, vcA7, ↓vcP1, ↓vcP2, ↓reduceIte, Option.map_some, Option.map_none, Option.bind_some, Option.bind_none, if_true, if_false, reduceCtorEq, beq_true, beq_false, Bool.not_true, Bool.not_false, BEq.rfl, Bool.true_beq, Bool.false_beq, and_true, true_and, and_self, decide_true, decide_false, List.length_cons, List.length_nil, List.all_cons, List.all_nil, Bool.and_true, Bool.and_self, List.getElem?_cons_zero, List.getElem?_cons_succ, List.set_cons_zero, List.set_cons_succ, List.nil_append, List.cons_append, List.append_nil, List.map_cons, List.map_nil, not_true_eq_false, not_false_eq_true, false_implies, true_implies, implies_true, List.take_succ_cons, List.take_zero, List.take_nil, List.drop_succ_cons, List.drop_zero, List.drop_nil, Nat.reduceLT, Nat.reduceLeDiff, Nat.reduceEqDiff, Nat.reduceAdd, Nat.reduceSub, Nat.reduceMul, Int.reduceLT, Int.reduceLE, Int.reduceEq, Int.reduceToNat, Int.reduceAdd, Int.reduceSub, Int.reduceNeg, List.reduceReplicate, List.replicate_zero, List.replicate_succ, ne_eq, List.flatMap_cons, List.flatMap_nil, List.length_replicate, List.length_append, Nat.le_refl, Nat.le_add_right, Nat.add_assoc, List.append_assoc, or_true, true_or, or_false, false_or, and_false, false_and, exists_eq_left, exists_eq_left', Option.some.injEq, DV.int.injEq, DV.bool.injEq, DV.sl.injEq, DV.own.injEq, DV.tup.injEq, List.cons.injEq, Ob.arr.injEq, Ob.box.injEq, Option.map_map, Int.toNat_natCast, Int.toNat_zero, Nat.reducePow, Int.toNat_one, Int.reduceMul, Nat.mul_one, Nat.zero_add, Nat.add_zero, Function.comp_apply, List.map_append, List.map_replicate, Int.cast_ofNat_Int, Nat.left_eq_add, Nat.add_eq_left, Nat.add_left_cancel_iff]
    refine ⟨fun h => ?_, fun h => ?_⟩
    · have hi2 : i < 2 := by omega
      have hb : inK .u8 ([raw, someF l].getD i []) ∧ ([raw, someF l].getD i []).length ≤ 200 := by
        have : i = 0 ∨ i = 1 := by omega
        rcases this with rfl | rfl
        · exact ⟨hr1, by show raw.length ≤ 200; omega⟩
        · exact ⟨hs1, by show (someF l).length ≤ 200; omega⟩
      generalize [raw, someF l].getD i [] = b at hb ⊢
      obtain ⟨hb1, hb2⟩ := hb
      have hz : (0 : Int) = ((0 : Nat) : Int) := rfl
      refine ⟨⟨by omega, h⟩, hi2, ⟨hb1, by omega⟩, ⟨hb1, by omega⟩, uallF_in hb1 (by omega), ?_⟩
      refine LoopWp.invR T16_ok (S := fun m (x : Nat × List Int) => ⟨[(2, .sl 1 (intRows .u8 pend) .any), (3, .int .u8 c), (4, .int .i32 r), (12, .sl 1 (intRows .u8 b) .any), (17, .sl 1 (intRows .u8 x.2) .any), (18, .int .i64 x.1),
          (45, .sl 1 (slRows .u8 [raw, someF l]) .any), (46, .int .i64 2), (47, .int .i64 i)], List.replicate m none⟩) (I := fun x => x.1 ≤ b.length ∧ inK .u8 x.2 ∧ x.2.length ≤ 3) (μ := fun x => b.length - x.1) n (0, []) ⟨by omega, inK_nil _, by simp⟩ ?_ ?_
      · simp -implicitDefEqProofs only [vcA1, vcA2, vcA3, vcA4, vcA5, vcA6, vcA7, ↓vcP1, ↓vcP2, ↓reduceIte, Option.map_some, Option.map_none, Option.bind_some, Option.bind_none, if_true, if_false, reduceCtorEq, beq_true, beq_false, Bool.not_true, Bool.not_false, BEq.rfl, Bool.true_beq, Bool.false_beq, and_true, true_and, and_self, decide_true, decide_false, List.length_cons, List.length_nil, List.all_cons, List.all_nil, Bool.and_true, Bool.and_self, List.getElem?_cons_zero, List.getElem?_cons_succ, List.set_cons_zero, List.set_cons_succ, List.nil_append, List.cons_append, List.append_nil, List.map_cons, List.map_nil, not_true_eq_false, not_false_eq_true, false_implies, true_implies, implies_true, List.take_succ_cons, List.take_zero, List.take_nil, List.drop_succ_cons, List.drop_zero, List.drop_nil, Nat.reduceLT, Nat.reduceLeDiff, Nat.reduceEqDiff, Nat.reduceAdd, Nat.reduceSub, Nat.reduceMul, Int.reduceLT, Int.reduceLE, Int.reduceEq, Int.reduceToNat, Int.reduceAdd, Int.reduceSub, Int.reduceNeg, List.reduceReplicate, List.replicate_zero, List.replicate_succ, ne_eq, List.flatMap_cons, List.flatMap_nil, List.length_replicate, List.length_append, Nat.le_refl, Nat.le_add_right, Nat.add_assoc, List.append_assoc, or_true, true_or, or_false, false_or, and_false, false_and, exists_eq_left, exists_eq_left', Option.some.injEq, DV.int.injEq, DV.bool.injEq, DV.sl.injEq, DV.own.injEq, DV.tup.injEq, List.cons.injEq, Ob.arr.injEq, Ob.box.injEq, Option.map_map, Int.toNat_natCast, Int.toNat_zero, Nat.reducePow, Int.toNat_one, Int.reduceMul, Nat.mul_one, Nat.zero_add, Nat.add_zero, Function.comp_apply, List.map_append, List.map_replicate, Int.cast_ofNat_Int, Nat.left_eq_add, Nat.add_eq_left, Nat.add_left_cancel_iff]
        exact hm
      · intro m2 ⟨j, p⟩ hm2 ⟨j1, j2, j3⟩
        unfold rc_utfTells_l0
        dsimp only at *
        simp -implicitDefEqProofs only [T16_b, ints_intRows, slRows_length, bindO_slRows, vcA1, vcA2, vcA3, vcA4, vcA5, vcA6, vcA7, ↓vcP1, ↓vcP2, ↓reduceIte, Option.map_some, Option.map_none, Option.bind_some, Option.bind_none, if_true, if_false, reduceCtorEq, beq_true, beq_false, Bool.not_true, Bool.not_false, BEq.rfl, Bool.true_beq, Bool.false_beq, and_true, true_and, and_self, decide_true, decide_false, List.length_cons, List.length_nil, List.all_cons, List.all_nil, Bool.and_true, Bool.and_self, List.getElem?_cons_zero, List.getElem?_cons_succ, List.set_cons_zero, List.set_cons_succ, List.nil_append, List.cons_append, List.append_nil, List.map_cons, List.map_nil, not_true_eq_false, not_false_eq_true, false_implies, true_implies, implies_true, List.take_succ_cons, List.take_zero, List.take_nil, List.drop_succ_cons, List.drop_zero, List.drop_nil, Nat.reduceLT, Nat.reduceLeDiff, Nat.reduceEqDiff, Nat.reduceAdd, Nat.reduceSub, Nat.reduceMul, Int.reduceLT, Int.reduceLE, Int.reduceEq, Int.reduceToNat, Int.reduceAdd, Int.reduceSub, Int.reduceNeg, List.reduceReplicate, List.replicate_zero, List.replicate_succ, ne_eq, List.flatMap_cons, List.flatMap_nil, List.length_replicate, List.length_append, Nat.le_refl, Nat.le_add_right, Nat.add_assoc, List.append_assoc, or_true, true_or, or_false, false_or, and_false, false_and, exists_eq_left, exists_eq_left', Option.some.injEq, DV.int.injEq, DV.bool.injEq, DV.sl.injEq, DV.own.injEq, DV.tup.injEq, List.cons.injEq, Ob.arr.injEq, Ob.box.injEq, Option.map_map, Int.toNat_natCast, Int.toNat_zero, Nat.reducePow, Int.toNat_one, Int.reduceMul, Nat.mul_one, Nat.zero_add, Nat.add_zero, Function.comp_apply, List.map_append, List.map_replicate, Int.cast_ofNat_Int, Nat.left_eq_add, Nat.add_eq_left, Nat.add_left_cancel_iff]
        refine ⟨fun hj => ?_, fun hj => ⟨by omega, i + 1, by rw [wI64] <;> omega, by omega, by omega⟩⟩
        have hj2 : j < b.length := by omega
        have hbj := getD_lt hb1 hj2
        have e := rstep_eq j2 hbj
        have q1 := ustep_in j2 hbj (by omega)
        have q2 := ustep_pl p (b.getD j 0)
        have q3 := ustep_r j2 hbj (by omega)
        have q4 := ustep_len p (b.getD j 0)
        have q5 : inK .i32 (ustep p (b.getD j 0)).2 := inK_i32 (by omega) fun n hn => by have := q3 n hn; omega
        refine ⟨⟨by omega, hj⟩, hj2, ⟨j2, by omega, hbj⟩, ⟨by omega, hj⟩, hj2, ⟨j2, hbj, by omega⟩, ?_⟩
        rw [e, b2n rfl, cnd_true]
        exact ⟨⟨q5, q5⟩, fun _ => ⟨by omega, (j + 1, (ustep p (b.getD j 0)).1), ⟨rfl, by rw [wI64] <;> omega⟩, ⟨by omega, q1, by omega⟩, by omega⟩, fun h => h rfl⟩
    · have hc2 : 0 ≤ c ∧ c ≤ 255 := hc
      have hr2 : -2147483648 ≤ r ∧ r ≤ 2147483647 := hr
      have e := rstep_eq hp1 hc2
      have q3 := ustep_r hp1 hc2 (by omega)
      have q4 := ustep_len pend c
      have q5 : inK .i32 (ustep pend c).2 := inK_i32 (by omega) fun n hn => by have := q3 n hn; omega
      simp only [ints_intRows]
      rw [e, b2n rfl, cnd_true]
      exact ⟨⟨hp1, by omega, hc2⟩, ⟨hp1, hc2, by omega⟩, ⟨q5, q5⟩, fun _ => ⟨hp1, hp1, hr2, hr2, by omega⟩, fun h => h rfl⟩
end Go.Proofs.YteemmpghpdaloaaDoor
end
section
/- 'UtfParts'. -/
set_option linter.unusedVariables false
set_option linter.unusedSimpArgs false
set_option maxRecDepth 10000
namespace Go.Proofs.YteemmpghpdaloaaDoor
open Go.RowKit

noncomputable def rc_uallO_l0 : RC := (.seq (.reg [⟨(some 12), (.bin .lss (.t 11) (.t 10)), none, false⟩] 0 [4, 5, 9, 10, 11, 12]) (.seq (.cond (.t 12) .skip (.ext 0)) (.seq (.blk 1 (.seq (.reg [⟨(some 13), (.iaddr 1 (.t 9) (.t 11)), none, false⟩, ⟨(some 14), (.load false 1 (.t 13)), none, false⟩, ⟨(some 7), (.mov (.t 14)), none, false⟩] 0 [4, 5, 7, 9, 10, 11]) (.seq (.reg [⟨(some 8), (.mov (.c (.sl 0 [] .nil))), none, false⟩] 0 [4, 5, 7, 9, 10, 11]) (.seq (.reg [⟨(some 16), (.mov (.t 5)), none, false⟩, ⟨(some 17), (.mov (.t 7)), none, false⟩, ⟨(some 18), (.call 17 [(.t 16), (.t 17)]), none, false⟩, ⟨(some 15), (.mov (.t 18)), none, false⟩, ⟨(some 19), (.ext (.t 15) 0), none, false⟩, ⟨(some 20), (.ext (.t 15) 1), none, false⟩, ⟨(some 5), (.mov (.t 19)), none, false⟩, ⟨(some 8), (.mov (.t 20)), none, false⟩] 0 [4, 5, 8, 9, 10, 11]) (.reg [⟨(some 21), (.mov (.t 4)), none, false⟩, ⟨(some 22), (.mov (.t 8)), none, false⟩, ⟨(some 23), (.append 1 4 (.t 21) (.t 22)), none, false⟩, ⟨(some 4), (.mov (.t 23)), none, false⟩] 0 [4, 5, 9, 10, 11]))))) (.reg [⟨(some 24), (.bin .add (.t 11) (.c (.int .i64 1))), none, false⟩, ⟨(some 11), (.mov (.t 24)), none, false⟩] 0 [4, 5, 9, 10, 11]))))
noncomputable def rc_uallO : RFn := ⟨1, 27, (.seq (.reg [⟨(some 2), (.mov (.c (.sl 0 [] .nil))), none, false⟩, ⟨(some 3), (.mov (.c (.sl 0 [] .nil))), none, false⟩] 0 [0]) (.seq (.reg [⟨(some 4), (.mov (.c (.sl 0 [] .nil))), none, false⟩] 0 [0, 4]) (.seq (.reg [⟨(some 5), (.mov (.c (.sl 0 [] .nil))), none, false⟩] 0 [0, 4, 5]) (.seq (.seq (.reg [⟨(some 9), (.mov (.t 0)), none, false⟩, ⟨(some 10), (.len (.t 9)), none, false⟩, ⟨(some 11), (.mov (.c (.int .i64 0))), none, false⟩] 0 [4, 5, 9, 10, 11]) (.blk 0 (.loop rc_uallO_l0))) (.seq (.reg [⟨(some 25), (.mov (.t 4)), none, false⟩, ⟨(some 26), (.mov (.t 5)), none, false⟩, ⟨(some 2), (.mov (.t 25)), none, false⟩, ⟨(some 3), (.mov (.t 26)), none, true⟩] 0 [2, 3]) .ret))))), [(.t 2), (.t 3)]⟩
theorem rc_uallO_ok : compFn PG.P [⟨0, 0, [0], []⟩, ⟨1, 0, [0, 4], []⟩, ⟨2, 0, [0, 4, 5], []⟩, ⟨3, 0, [4, 5, 9, 10, 11], []⟩, ⟨4, 0, [4, 5, 9, 10, 11, 12], []⟩, ⟨5, 0, [4, 5, 7, 9, 10, 11], []⟩, ⟨6, 0, [4, 5, 7, 9, 10, 11], []⟩, ⟨7, 0, [4, 5, 8, 9, 10, 11], []⟩, ⟨8, 0, [4, 5, 9, 10, 11], []⟩, ⟨9, 0, [4, 5, 9, 10, 11], []⟩, ⟨10, 0, [2, 3], [3]⟩] 14 = some rc_uallO := by kernel_rfl
noncomputable def rc_some3O_l0 : RC := (.seq (.seq (.reg [⟨(some 7), (.mov (.t 5)), none, false⟩, ⟨(some 8), (.mov (.t 0)), none, false⟩, ⟨(some 9), (.len (.t 8)), none, false⟩, ⟨(some 10), (.bin .lss (.t 7) (.t 9)), none, false⟩] 0 [0, 3, 4, 5, 10]) (.cond (.t 10) .skip (.ext 0))) (.seq (.blk 1 (.reg [⟨(some 13), (.mov (.t 4)), none, false⟩, ⟨(some 14), (.mov (.t 3)), none, false⟩, ⟨(some 15), (.mov (.t 0)), none, false⟩, ⟨(some 16), (.mov (.t 5)), none, false⟩, ⟨(some 17), (.iaddr 1 (.t 15) (.t 16)), none, false⟩, ⟨(some 18), (.load false 1 (.t 17)), none, false⟩, ⟨(some 19), (.conv (.i2i .i64) (.t 18)), none, false⟩, ⟨(some 20), (.mov (.t 3)), none, false⟩, ⟨(some 21), (.len (.t 20)), none, false⟩, ⟨(some 22), (.bin .rem (.t 19) (.t 21)), none, false⟩, ⟨(some 23), (.iaddr 1 (.t 14) (.t 22)), none, false⟩, ⟨(some 24), (.load false 1 (.t 23)), none, false⟩, ⟨(some 25), (.append 1 1 (.t 13) (.t 24)), none, false⟩, ⟨(some 4), (.mov (.t 25)), none, false⟩] 0 [0, 3, 4, 5])) (.reg [⟨(some 11), (.mov (.t 5)), none, false⟩, ⟨(some 12), (.bin .add (.t 11) (.c (.int .i64 1))), none, false⟩, ⟨(some 5), (.mov (.t 12)), none, false⟩] 0 [0, 3, 4, 5])))
noncomputable def rc_some3O : RFn := ⟨1, 27, (.seq (.reg [⟨(some 2), (.mov (.c (.sl 0 [] .nil))), none, false⟩] 0 [0]) (.seq (.reg [⟨(some 6), (.mkrow 1 [(.str [])] 17 [(0, (.c (.str [(97)]))), (1, (.c (.str [(195), (169)]))), (2, (.c (.str [(230), (188), (162)]))), (3, (.c (.str [(240), (159), (152), (128)]))), (4, (.c (.str [(255)]))), (5, (.c (.str [(195)]))), (6, (.c (.str [(230)]))), (7, (.c (.str [(230), (188)]))), (8, (.c (.str [(240), (159)]))), (9, (.c (.str [(237), (160), (128)]))), (10, (.c (.str [(192), (128)]))), (11, (.c (.str [(244), (144)]))), (12, (.c (.str [(128)]))), (13, (.c (.str [(224), (159)]))), (14, (.c (.str [(240), (143)]))), (15, (.c (.str [(239), (191), (189)]))), (16, (.c (.str [(245)])))]), none, false⟩, ⟨(some 3), (.mov (.t 6)), none, true⟩] 0 [0, 3]) (.seq (.reg [⟨(some 4), (.mov (.c (.sl 0 [] .nil))), none, false⟩] 0 [0, 3, 4]) (.seq (.seq (.reg [⟨(some 5), (.mov (.c (.int .i64 0))), none, false⟩] 0 [0, 3, 4, 5]) (.blk 0 (.loop rc_some3O_l0))) (.seq (.reg [⟨(some 26), (.mov (.t 4)), none, false⟩, ⟨(some 2), (.mov (.t 26)), none, false⟩] 0 [2]) .ret))))), [(.t 2)]⟩
theorem rc_some3O_ok : compFn PG.P [⟨0, 0, [0], []⟩, ⟨1, 0, [0, 3], [3]⟩, ⟨2, 0, [0, 3, 4], []⟩, ⟨3, 0, [0, 3, 4, 5], []⟩, ⟨4, 0, [0, 3, 4, 5, 10], []⟩, ⟨5, 0, [0, 3, 4, 5], []⟩, ⟨6, 0, [0, 3, 4, 5], []⟩, ⟨7, 0, [2], []⟩] 13 = some rc_some3O := by kernel_rfl
noncomputable def rc_utfParts_l0 : RC := (.seq (.seq (.reg [⟨(some 49), (.mov (.t 13)), none, false⟩, ⟨(some 50), (.mov (.t 7)), none, false⟩, ⟨(some 51), (.len (.t 50)), none, false⟩, ⟨(some 52), (.bin .lss (.t 49) (.t 51)), none, false⟩] 0 [7, 9, 10, 11, 12, 13, 52]) (.cond (.t 52) .skip (.ext 0))) (.seq (.blk 1 (.seq (.reg [⟨(some 56), (.mov (.t 12)), none, false⟩, ⟨(some 57), (.mov (.t 7)), none, false⟩, ⟨(some 58), (.mov (.t 13)), none, false⟩, ⟨(some 59), (.iaddr 1 (.t 57) (.t 58)), none, false⟩, ⟨(some 60), (.load false 1 (.t 59)), none, false⟩, ⟨(some 61), (.call 17 [(.t 56), (.t 60)]), none, false⟩, ⟨(some 55), (.mov (.t 61)), none, false⟩, ⟨(some 62), (.ext (.t 55) 0), none, false⟩, ⟨(some 63), (.ext (.t 55) 1), none, false⟩, ⟨(some 14), (.mov (.t 62)), none, false⟩, ⟨(some 15), (.mov (.t 63)), none, false⟩] 0 [7, 9, 10, 11, 13, 14, 15]) (.reg [⟨(some 64), (.mov (.t 14)), none, false⟩, ⟨(some 65), (.mov (.t 11)), none, false⟩, ⟨(some 66), (.mov (.t 15)), none, false⟩, ⟨(some 67), (.append 1 4 (.t 65) (.t 66)), none, false⟩, ⟨(some 12), (.mov (.t 64)), none, false⟩, ⟨(some 11), (.mov (.t 67)), none, false⟩] 0 [7, 9, 10, 11, 12, 13]))) (.reg [⟨(some 53), (.mov (.t 13)), none, false⟩, ⟨(some 54), (.bin .add (.t 53) (.c (.int .i64 1))), none, false⟩, ⟨(some 13), (.mov (.t 54)), none, false⟩] 0 [7, 9, 10, 11, 12, 13])))
noncomputable def rc_utfParts : RFn := ⟨3, 87, (.seq (.reg [⟨(some 6), (.mov (.c (.bool false))), none, false⟩] 0 [0, 1, 2]) (.seq (.seq (.reg [⟨(some 16), (.call 12 []), none, false⟩, ⟨(some 17), (.un .not (.t 16)), none, false⟩] 0 [0, 1, 2, 17]) (.cond (.t 17) (.seq (.reg [⟨(some 6), (.mov (.c (.bool false))), none, false⟩] 0 [6]) .ret) .skip)) (.seq (.seq (.reg [⟨(some 18), (.mov (.t 0)), none, false⟩, ⟨(some 19), (.len (.t 18)), none, false⟩, ⟨(some 20), (.bin .gtr (.t 19) (.c (.int .i64 60))), none, false⟩, ⟨(some 21), (.mov (.t 20)), none, false⟩, ⟨(some 22), (.mov (.t 1)), (some (21, false)), false⟩, ⟨(some 23), (.len (.t 22)), (some (21, false)), false⟩, ⟨(some 24), (.bin .gtr (.t 23) (.c (.int .i64 30))), (some (21, false)), false⟩, ⟨(some 25), (.pick (.t 21) (.c (.bool true)) (.t 24)), none, false⟩] 0 [0, 1, 2, 25]) (.cond (.t 25) (.seq (.reg [⟨(some 6), (.mov (.c (.bool true))), none, false⟩] 0 [6]) .ret) .skip)) (.seq (.reg [⟨(some 26), (.mov (.t 1)), none, false⟩, ⟨(some 27), (.call 13 [(.t 26)]), none, false⟩, ⟨(some 28), (.mov (.t 0)), none, false⟩, ⟨(some 29), (.append 1 1 (.t 27) (.t 28)), none, false⟩, ⟨(some 7), (.mov (.t 29)), none, true⟩] 0 [2, 7]) (.seq (.reg [⟨(some 30), (.mov (.t 2)), none, false⟩, ⟨(some 31), (.conv (.i2i .i64) (.t 30)), none, false⟩, ⟨(some 32), (.mov (.t 7)), none, false⟩, ⟨(some 33), (.len (.t 32)), none, false⟩, ⟨(some 34), (.bin .add (.t 33) (.c (.int .i64 1))), none, false⟩, ⟨(some 35), (.bin .rem (.t 31) (.t 34)), none, false⟩, ⟨(some 8), (.mov (.t 35)), none, false⟩] 0 [7, 8]) (.seq (.reg [⟨(some 37), (.mov (.t 7)), none, false⟩, ⟨(some 38), (.call 14 [(.t 37)]), none, false⟩, ⟨(some 36), (.mov (.t 38)), none, false⟩, ⟨(some 39), (.ext (.t 36) 0), none, true⟩, ⟨(some 40), (.ext (.t 36) 1), none, false⟩, ⟨(some 9), (.mov (.t 39)), none, false⟩, ⟨(some 10), (.mov (.t 40)), none, false⟩] 0 [7, 8, 9, 10]) (.seq (.reg [⟨(some 42), (.mov (.t 7)), none, false⟩, ⟨(some 43), (.mov (.t 8)), none, false⟩, ⟨(some 44), (.slice 1 (.t 42) none (some (.t 43)) none), none, false⟩, ⟨(some 45), (.call 14 [(.t 44)]), none, false⟩, ⟨(some 41), (.mov (.t 45)), none, false⟩, ⟨(some 46), (.ext (.t 41) 0), none, false⟩, ⟨(some 47), (.ext (.t 41) 1), none, false⟩, ⟨(some 11), (.mov (.t 46)), none, false⟩, ⟨(some 12), (.mov (.t 47)), none, false⟩] 0 [7, 8, 9, 10, 11, 12]) (.seq (.seq (.reg [⟨(some 48), (.mov (.t 8)), none, false⟩, ⟨(some 13), (.mov (.t 48)), none, false⟩] 0 [7, 9, 10, 11, 12, 13]) (.blk 0 (.loop rc_utfParts_l0))) (.seq (.reg [⟨(some 68), (.mov (.t 9)), none, false⟩, ⟨(some 69), (.mov (.t 11)), none, true⟩, ⟨(some 70), (.call 16 [(.t 68), (.t 69)]), none, false⟩, ⟨(some 71), (.mov (.t 70)), none, false⟩, ⟨(some 72), (.mov (.t 12)), (some (71, true)), false⟩, ⟨(some 73), (.conv .b2s (.t 72)), (some (71, true)), false⟩, ⟨(some 74), (.mov (.t 10)), (some (71, true)), false⟩, ⟨(some 75), (.conv .b2s (.t 74)), (some (71, true)), false⟩, ⟨(some 76), (.bin .eql (.t 73) (.t 75)), (some (71, true)), false⟩, ⟨(some 77), (.pick (.t 71) (.t 76) (.c (.bool false))), none, false⟩, ⟨(some 78), (.mov (.t 77)), none, false⟩, ⟨(some 79), (.mov (.t 12)), (some (78, true)), false⟩, ⟨(some 80), (.len (.t 79)), (some (78, true)), false⟩, ⟨(some 81), (.bin .eql (.t 80) (.c (.int .i64 0))), (some (78, true)), false⟩, ⟨(some 82), (.mov (.t 81)), (some (78, true)), false⟩, ⟨(some 83), (.mov (.t 12)), (some (82, false)), false⟩, ⟨(some 84), (.call 19 [(.t 83)]), (some (82, false)), false⟩, ⟨(some 85), (.pick (.t 82) (.c (.bool true)) (.t 84)), (some (78, true)), false⟩, ⟨(some 86), (.pick (.t 78) (.t 85) (.c (.bool false))), none, false⟩, ⟨(some 6), (.mov (.t 86)), none, false⟩] 0 [6]) .ret))))))))), [(.t 6)]⟩
theorem rc_utfParts_ok : compFn PG.P [⟨0, 0, [0, 1, 2], []⟩, ⟨1, 0, [0, 1, 2, 17], []⟩, ⟨2, 0, [6], []⟩, ⟨3, 0, [0, 1, 2, 25], []⟩, ⟨4, 0, [6], []⟩, ⟨5, 0, [2, 7], [7]⟩, ⟨6, 0, [7, 8], []⟩, ⟨7, 0, [7, 8, 9, 10], [39]⟩, ⟨8, 0, [7, 8, 9, 10, 11, 12], []⟩, ⟨9, 0, [7, 9, 10, 11, 12, 13], []⟩, ⟨10, 0, [7, 9, 10, 11, 12, 13, 52], []⟩, ⟨11, 0, [7, 9, 10, 11, 12, 13], []⟩, ⟨12, 0, [7, 9, 10, 11, 13, 14, 15], []⟩, ⟨13, 0, [7, 9, 10, 11, 12, 13], []⟩, ⟨14, 0, [6], [69]⟩] 6 = some rc_utfParts := by kernel_rfl
theorem uallO_P {sz_l : Nat} {k_l : SK} {l : List Int} (hs_l : sz_l = 1 ∨ l = []) (hk_l : inK .u8 l) (hp : l.length ≤ 10000000) :
    PCalls PG 14 [.sl sz_l (intRows .u8 l) k_l] fun n RR OO => RR = .tup [.own n 0 (uallF l).1.length, .sl 1 (intRows .u8 (uallF l).2) .any] ∧ OO = [some (.arr 1 (intRows .i32 (uallF l).1))] := by
  refine PCalls.by_fn (res := fun n => (.tup [.own n 0 (uallF l).1.length, .sl 1 (intRows .u8 (uallF l).2) .any], [some (.arr 1 (intRows .i32 (uallF l).1))])) T16_ok rc_uallO_ok (by simp [rc_uallO]) fun n => ?_
  unfold rc_uallO
  dsimp only
  simp -implicitDefEqProofs only [T16_b, vcA1, vcA2, vcA3, vcA4, vcA5, vcA6, vcA7, ↓vcP1, ↓vcP2, ↓reduceIte, Option.map_some, Option.map_none, Option.bind_some, Option.bind_none, if_true, if_false, reduceCtorEq, beq_true, beq_false, Bool.not_true, Bool.not_false, BEq.rfl, Bool.true_beq, Bool.false_beq, and_true, true_and, and_self, decide_true, decide_false, List.length_cons, List.length_nil, List.all_cons, List.all_nil, Bool.and_true, Bool.and_self, List.getElem?_cons_zero, List.getElem?_cons_succ, List.set_cons_zero, List.set_cons_succ, List.nil_append, List.cons_append, List.append_nil, List.map_cons, List.map_nil, not_true_eq_false, not_false_eq_true, false_implies, true_implies, implies_true, List.take_succ_cons, List.take_zero, List.take_nil, List.drop_succ_cons, List.drop_zero, List.drop_nil, Nat.reduceLT, Nat.reduceLeDiff, Nat.reduceEqDiff, Nat.reduceAdd, Nat.reduceSub, Nat.reduceMul, Int.reduceLT, Int.reduceLE, Int.reduceEq, Int.reduceToNat, Int.reduceAdd, Int.reduceSub, Int.reduceNeg, List.reduceReplicate, List.replicate_zero, List.replicate_succ, ne_eq, List.flatMap_cons, List.flatMap_nil, List.length_replicate, List.length_append, Nat.le_refl, Nat.le_add_right, Nat.add_assoc, List.append_assoc, or_true, true_or, or_false, false_or, and_false, false_and, exists_eq_left, exists_eq_left', Option.some.injEq, DV.int.injEq, DV.bool.injEq, DV.sl.injEq, DV.own.injEq, DV.tup.injEq, List.cons.injEq, Ob.arr.injEq, Ob.box.injEq, Option.map_map, Int.toNat_natCast, Int.toNat_zero, Nat.reducePow, Int.toNat_one, Int.reduceMul, Nat.mul_one, Nat.zero_add, Nat.add_zero, Function.comp_apply, List.map_append, List.map_replicate, Int.cast_ofNat_Int, Nat.left_eq_add, Nat.add_eq_left, Nat.add_left_cancel_iff]
  refine LoopWp.own 4 1 rfl (.inl rfl) ?_
  refine LoopWp.invR T16_ok (S := fun m (i : Nat) => ⟨[(4, .own m 0 (uallF (l.take i)).1.length), (5, .sl 1 (intRows .u8 (uallF (l.take i)).2) .any), (9, .sl sz_l (intRows .u8 l) k_l), (10, .int .i64 l.length), (11, .int .i64 i)],
        List.replicate m none ++ [some (.arr 1 (intRows .i32 (uallF (l.take i)).1))]⟩) (I := fun i => i ≤ l.length) (μ := fun i => l.length - i) n 0 (by omega) ?_ ?_
  · simp -implicitDefEqProofs only [List.take_zero, vcA1, vcA2, vcA3, vcA4, vcA5, vcA6, vcA7, ↓vcP1, ↓vcP2, ↓reduceIte, Option.map_some, Option.map_none, Option.bind_some, Option.bind_none, if_true, if_false, reduceCtorEq, beq_true, beq_false, Bool.not_true, Bool.not_false, BEq.rfl, Bool.true_beq, Bool.false_beq, and_true, true_and, and_self, decide_true, decide_false, List.length_cons, List.length_nil, List.all_cons, List.all_nil, Bool.and_true, Bool.and_self, List.getElem?_cons_zero, List.getElem?_cons_succ, List.set_cons_zero, List.set_cons_succ, List.nil_append, List.cons_append, List.append_nil, List.map_cons, List.map_nil, not_true_eq_false, not_false_eq_true, false_implies, true_implies, implies_true, List.take_succ_cons, List.take_zero, List.take_nil, List.drop_succ_cons, List.drop_zero, List.drop_nil, Nat.reduceLT, Nat.reduceLeDiff, Nat.reduceEqDiff, Nat.reduceAdd, Nat.reduceSub, Nat.reduceMul, Int.reduceLT, Int.reduceLE, Int.reduceEq, Int.reduceToNat, Int.reduceAdd, Int.reduceSub, Int.reduceNeg, List.reduceReplicate, List.replicate_zero, List.replicate_succ, ne_eq, List.flatMap_cons, List.flatMap_nil, List.length_replicate, List.length_append, Nat.le_refl, Nat.le_add_right, Nat.add_assoc, List.append_assoc, or_true, true_or, or_false, false_or, and_false, false_and, exists_eq_left, exists_eq_left', Option.some.injEq, DV.int.injEq, DV.bool.injEq, DV.sl.injEq, DV.own.injEq, DV.tup.injEq, List.cons.injEq, Ob.arr.injEq, Ob.box.injEq, Option.map_map, Int.toNat_natCast, Int.toNat_zero, Nat.reducePow, Int.toNat_one, Int.reduceMul, Nat.mul_one, Nat.zero_add, Nat.add_zero, Function.comp_apply, List.map_append, List.map_replicate, Int.cast_ofNat_Int, Nat.left_eq_add, Nat.add_eq_left, Nat.add_left_cancel_iff]
    exact ⟨⟨rfl, rfl⟩, rfl⟩
  · intro m i hm hi
    unfold rc_uallO_l0
    simp -implicitDefEqProofs only [T16_b, ints_intRows, vcA1, vcA2, vcA3, vcA4, vcA5, vcA6, vcA7, ↓vcP1, ↓vcP2, ↓reduceIte, Option.map_some, Option.map_none, Option.bind_some, Option.bind_none, if_true, if_false, reduceCtorEq, beq_true, beq_false, Bool.not_true, Bool.not_false, BEq.rfl, Bool.true_beq, Bool.false_beq, and_true, true_and, and_self, decide_true, decide_false, List.length_cons, List.length_nil, List.all_cons, List.all_nil, Bool.and_true, Bool.and_self, List.getElem?_cons_zero, List.getElem?_cons_succ, List.set_cons_zero, List.set_cons_succ, List.nil_append, List.cons_append, List.append_nil, List.map_cons, List.map_nil, not_true_eq_false, not_false_eq_true, false_implies, true_implies, implies_true, List.take_succ_cons, List.take_zero, List.take_nil, List.drop_succ_cons, List.drop_zero, List.drop_nil, Nat.reduceLT, Nat.reduceLeDiff, Nat.reduceEqDiff, Nat.reduceAdd, Nat.reduceSub, Nat.reduceMul, Int.reduceLT, Int.reduceLE, Int.reduceEq, Int.reduceToNat, Int.reduceAdd, Int.reduceSub, Int.reduceNeg, List.reduceReplicate, List.replicate_zero, List.replicate_succ, ne_eq, List.flatMap_cons, List.flatMap_nil, List.length_replicate, List.length_append, Nat.le_refl, Nat.le_add_right, Nat.add_assoc, List.append_assoc, or_true, true_or, or_false, false_or, and_false, false_and, exists_eq_left, exists_eq_left', Option.some.injEq, DV.int.injEq, DV.bool.injEq, DV.sl.injEq, DV.own.injEq, DV.tup.injEq, List.cons.injEq, Ob.arr.injEq, Ob.box.injEq, Option.map_map, Int.toNat_natCast, Int.toNat_zero, Nat.reducePow, Int.toNat_one, Int.reduceMul, Nat.mul_one, Nat.zero_add, Nat.add_zero, Function.comp_apply, List.map_append, List.map_replicate, Int.cast_ofNat_Int, Nat.left_eq_add, Nat.add_eq_left, Nat.add_left_cancel_iff]
    obtain ⟨g1, g2, g3⟩ := uallF_take hk_l i hi
    refine ⟨fun h => ?_, fun h => ?_⟩
    · have h0 : i < l.length := by omega
      have hsz : sz_l = 1 := hs_l.resolve_right fun e => by simp [e] at h0
      have hb := getD_lt hk_l h0
      have h2 := ustep_len (uallF (l.take i)).2 (l.getD i 0)
      have hgd : l.getD i 0 = l[i] := by rw [List.getD_eq_getElem?_getD, List.getElem?_eq_getElem h0]; rfl
      have e : uallF (l.take (i + 1)) = ((uallF (l.take i)).1 ++ (ustep (uallF (l.take i)).2 (l.getD i 0)).2, (ustep (uallF (l.take i)).2 (l.getD i 0)).1) := by
        rw [List.take_succ_eq_append_getElem h0, uallF_snoc, hgd]
      refine ⟨⟨by omega, h, hsz⟩, h0, ⟨g1, by omega, hb⟩, ⟨by omega, by omega⟩, by omega, i + 1, ?_, by omega, by omega⟩
      rw [e]
      exact ⟨⟨by simp, rfl, by rw [wI64] <;> omega⟩, rfl⟩
    · have h1 : i = l.length := by omega
      subst h1
      rw [List.take_length]
      (repeat' apply And.intro) <;> first | omega | rfl
def F_uallO : List DV → Option FSpec
  | [a_l] => some ⟨isInts .u8 a_l ∧ (intsD a_l).length ≤ 10000000, fun n => (.tup [.own n 0 (uallF (intsD a_l)).1.length, .sl 1 (intRows .u8 (uallF (intsD a_l)).2) .any], [some (.arr 1 (intRows .i32 (uallF (intsD a_l)).1))])⟩
  | _ => none
theorem F_uallO_1 (a_l : DV) : F_uallO [a_l] = some ⟨isInts .u8 a_l ∧ (intsD a_l).length ≤ 10000000, fun n => (.tup [.own n 0 (uallF (intsD a_l)).1.length, .sl 1 (intRows .u8 (uallF (intsD a_l)).2) .any], [some (.arr 1 (intRows .i32 (uallF (intsD a_l)).1))])⟩ := nrfl _
theorem uallO_ok (args : List DV) (s : FSpec) (hs : F_uallO args = some s) (hp : s.pre) : PCalls PG 14 args fun n r os => r = (s.res n).1 ∧ os = (s.res n).2 := by
  unfold F_uallO at hs
  split at hs
  · rename_i a_l
    obtain rfl := Option.some.inj hs
    obtain ⟨hi_l, hp⟩ := hp
    obtain ⟨s0_l, k0_l, h1_l, h2_l, h3_l⟩ := isInts_inv hi_l
    have this := uallO_P (k_l := k0_l) h2_l h3_l hp
    rw [← h1_l] at this
    exact this
  · cases hs

theorem some3O_P {sz_l : Nat} {k_l : SK} {l : List Int} (hs_l : sz_l = 1 ∨ l = []) (hk_l : inK .u8 l) (hp : l.length ≤ 1000000) :
    PCalls PG 13 [.sl sz_l (intRows .u8 l) k_l] fun n RR OO => RR = .own n 0 (someF l).length ∧ OO = [some (.arr 1 (intRows .u8 (someF l)))] := by
  refine PCalls.by_fn (res := fun n => (.own n 0 (someF l).length, [some (.arr 1 (intRows .u8 (someF l)))])) T16_ok rc_some3O_ok (by simp [rc_some3O]) fun n => ?_
  unfold rc_some3O
  dsimp only
  simp -implicitDefEqProofs only [T16_b, vcA1, vcA2, vcA3, vcA4, vcA5, vcA6, vcA7, ↓vcP1, ↓vcP2, ↓reduceIte, Option.map_some, Option.map_none, Option.bind_some, Option.bind_none, if_true, if_false, reduceCtorEq, beq_true, beq_false, Bool.not_true, Bool.not_false, BEq.rfl, Bool.true_beq, Bool.false_beq, and_true, true_and, and_self, decide_true, decide_false, List.length_cons, List.length_nil, List.all_cons, List.all_nil, Bool.and_true, Bool.and_self, List.getElem?_cons_zero, List.getElem?_cons_succ, List.set_cons_zero, List.set_cons_succ, List.nil_append, List.cons_append, List.append_nil, List.map_cons, List.map_nil, not_true_eq_false, not_false_eq_true, false_implies, true_implies, implies_true, List.take_succ_cons, List.take_zero, List.take_nil, List.drop_succ_cons, List.drop_zero, List.drop_nil, Nat.reduceLT, Nat.reduceLeDiff, Nat.reduceEqDiff, Nat.reduceAdd, Nat.reduceSub, Nat.reduceMul, Int.reduceLT, Int.reduceLE, Int.reduceEq, Int.reduceToNat, Int.reduceAdd, Int.reduceSub, Int.reduceNeg, List.reduceReplicate, List.replicate_zero, List.replicate_succ, ne_eq, List.flatMap_cons, List.flatMap_nil, List.length_replicate, List.length_append, Nat.le_refl, Nat.le_add_right, Nat.add_assoc, List.append_assoc, or_true, true_or, or_false, false_or, and_false, false_and, exists_eq_left, exists_eq_left', Option.some.injEq, DV.int.injEq, DV.bool.injEq, DV.sl.injEq, DV.own.injEq, DV.tup.injEq, List.cons.injEq, Ob.arr.injEq, Ob.box.injEq, Option.map_map, Int.toNat_natCast, Int.toNat_zero, Nat.reducePow, Int.toNat_one, Int.reduceMul, Nat.mul_one, Nat.zero_add, Nat.add_zero, Function.comp_apply, List.map_append, List.map_replicate, Int.cast_ofNat_Int, Nat.left_eq_add, Nat.add_eq_left, Nat.add_left_cancel_iff]
  refine LoopWp.own 4 1 rfl (.inl rfl) ?_
  refine LoopWp.invR T16_ok (S := fun m (i : Nat) => ⟨[(0, .sl sz_l (intRows .u8 l) k_l), (3, .sl 1 (strRows pieces3) .any), (4, .own m 0 (someF (l.take i)).length), (5, .int .i64 i)],
        List.replicate m none ++ [some (.arr 1 (intRows .u8 (someF (l.take i))))]⟩) (I := fun i => i ≤ l.length) (μ := fun i => l.length - i) n 0 (by omega) ?_ ?_
  · simp -implicitDefEqProofs only [List.take_zero, vcA1, vcA2, vcA3, vcA4, vcA5, vcA6, vcA7, ↓vcP1, ↓vcP2, ↓reduceIte, Option.map_some, Option.map_none, Option.bind_some, Option.bind_none, if_true, if_false, reduceCtorEq, beq_true, beq_false, Bool.not_true, Bool.not_false, BEq.rfl, Bool.true_beq, Bool.false_beq, and_true, true_and, and_self, decide_true, decide_false, List.length_cons, List.length_nil, List.all_cons, List.all_nil, Bool.and_true, Bool.and_self, List.getElem?_cons_zero, List.getElem?_cons_succ, List.set_cons_zero, List.set_cons_succ, List.nil_append, List.cons_append, List.append_nil, List.map_cons, List.map_nil, not_true_eq_false, not_false_eq_true, false_implies, true_implies, implies_true, List.take_succ_cons, List.take_zero, List.take_nil, List.drop_succ_cons, List.drop_zero, List.drop_nil, Nat.reduceLT, Nat.reduceLeDiff, Nat.reduceEqDiff, Nat.reduceAdd, Nat.reduceSub, Nat.reduceMul, Int.reduceLT, Int.reduceLE, Int.reduceEq, Int.reduceToNat, Int.reduceAdd, Int.reduceSub, Int.reduceNeg, List.reduceReplicate, List.replicate_zero, List.replicate_succ, ne_eq, List.flatMap_cons, List.flatMap_nil, List.length_replicate, List.length_append, Nat.le_refl, Nat.le_add_right, Nat.add_assoc, List.append_assoc, or_true, true_or, or_false, false_or, and_false, false_and, exists_eq_left, exists_eq_left', Option.some.injEq, DV.int.injEq, DV.bool.injEq, DV.sl.injEq, DV.own.injEq, DV.tup.injEq, List.cons.injEq, Ob.arr.injEq, Ob.box.injEq, Option.map_map, Int.toNat_natCast, Int.toNat_zero, Nat.reducePow, Int.toNat_one, Int.reduceMul, Nat.mul_one, Nat.zero_add, Nat.add_zero, Function.comp_apply, List.map_append, List.map_replicate, Int.cast_ofNat_Int, Nat.left_eq_add, Nat.add_eq_left, Nat.add_left_cancel_iff]
    exact ⟨⟨rfl, rfl⟩, rfl⟩
  · intro m i hm hi
    unfold rc_some3O_l0
    simp -implicitDefEqProofs only [T16_b, strRows_length, pieces3_len, bindO_strRows, ↓bindO_iteN, bytesRows_nums, vcA1, vcA2, vcA3, vcA4, vcA5, vcA6, vcA7, ↓vcP1, ↓vcP2, ↓reduceIte, Option.map_some, Option.map_none, Option.bind_some, Option.bind_none, if_true, if_false, reduceCtorEq, beq_true, beq_false, Bool.not_true, Bool.not_false, BEq.rfl, Bool.true_beq, Bool.false_beq, and_true, true_and, and_self, decide_true, decide_false, List.length_cons, List.length_nil, List.all_cons, List.all_nil, Bool.and_true, Bool.and_self, List.getElem?_cons_zero, List.getElem?_cons_succ, List.set_cons_zero, List.set_cons_succ, List.nil_append, List.cons_append, List.append_nil, List.map_cons, List.map_nil, not_true_eq_false, not_false_eq_true, false_implies, true_implies, implies_true, List.take_succ_cons, List.take_zero, List.take_nil, List.drop_succ_cons, List.drop_zero, List.drop_nil, Nat.reduceLT, Nat.reduceLeDiff, Nat.reduceEqDiff, Nat.reduceAdd, Nat.reduceSub, Nat.reduceMul, Int.reduceLT, Int.reduceLE, Int.reduceEq, Int.reduceToNat, Int.reduceAdd, Int.reduceSub, Int.reduceNeg, List.reduceReplicate, List.replicate_zero, List.replicate_succ, ne_eq, List.flatMap_cons, List.flatMap_nil, List.length_replicate, List.length_append, Nat.le_refl, Nat.le_add_right, Nat.add_assoc, List.append_assoc, or_true, true_or, or_false, false_or, and_false, false_and, exists_eq_left, exists_eq_left', Option.some.injEq, DV.int.injEq, DV.bool.injEq, DV.sl.injEq, DV.own.injEq, DV.tup.injEq, List.cons.injEq, Ob.arr.injEq, Ob.box.injEq, Option.map_map, Int.toNat_natCast, Int.toNat_zero, Nat.reducePow, Int.toNat_one, Int.reduceMul, Nat.mul_one, Nat.zero_add, Nat.add_zero, Function.comp_apply, List.map_append, List.map_replicate, Int.cast_ofNat_Int, Nat.left_eq_add, Nat.add_eq_left, Nat.add_left_cancel_iff]
    have hl4 := someF_len (l.take i)
    have htl : (l.take i).length = i := by rw [List.length_take]; omega
    rw [htl] at hl4
    refine ⟨fun h => ?_, fun h => ?_⟩
    · have h0 : i < l.length := by omega
      have hsz : sz_l = 1 := hs_l.resolve_right fun e => by simp [e] at h0
      have hb := getD_lt hk_l h0
      have hgd : l.getD i 0 = l[i] := by rw [List.getD_eq_getElem?_getD, List.getElem?_eq_getElem h0]; rfl
      have e : someF (l.take (i + 1)) = someF (l.take i) ++ nums (pieces3.getD ((l.getD i 0).tmod 17).toNat []) := by
        rw [List.take_succ_eq_append_getElem h0, someF_snoc, hgd]
      rw [wI64 (n := l.getD i 0) (by omega) (by omega)]
      have hm17 : (l.getD i 0).tmod 17 = l.getD i 0 % 17 := Int.tmod_eq_emod_of_nonneg hb.1
      have hpl := piece_len ((l.getD i 0).tmod 17).toNat
      rw [nums_length]
      refine ⟨⟨by omega, h, hsz⟩, h0, ⟨by omega, by omega⟩, by omega, ⟨by omega, by omega⟩, by omega, i + 1, ?_, by omega, by omega⟩
      rw [e]
      exact ⟨⟨by simp [nums_length], by rw [wI64] <;> omega⟩, rfl⟩
    · have h1 : i = l.length := by omega
      subst h1
      rw [List.take_length]
      (repeat' apply And.intro) <;> first | omega | rfl
def F_some3O : List DV → Option FSpec
  | [a_l] => some ⟨isInts .u8 a_l ∧ (intsD a_l).length ≤ 1000000, fun n => (.own n 0 (someF (intsD a_l)).length, [some (.arr 1 (intRows .u8 (someF (intsD a_l))))])⟩
  | _ => none
theorem F_some3O_1 (a_l : DV) : F_some3O [a_l] = some ⟨isInts .u8 a_l ∧ (intsD a_l).length ≤ 1000000, fun n => (.own n 0 (someF (intsD a_l)).length, [some (.arr 1 (intRows .u8 (someF (intsD a_l))))])⟩ := nrfl _
theorem some3O_ok (args : List DV) (s : FSpec) (hs : F_some3O args = some s) (hp : s.pre) : PCalls PG 13 args fun n r os => r = (s.res n).1 ∧ os = (s.res n).2 := by
  unfold F_some3O at hs
  split at hs
  · rename_i a_l
    obtain rfl := Option.some.inj hs
    obtain ⟨hi_l, hp⟩ := hp
    obtain ⟨s0_l, k0_l, h1_l, h2_l, h3_l⟩ := isInts_inv hi_l
    have this := some3O_P (k_l := k0_l) h2_l h3_l hp
    rw [← h1_l] at this
    exact this
  · cases hs

def T17 : FL := (14, F_uallO) :: (13, F_some3O) :: T16
theorem T17_ok : FOk PG (tab T17) := FOk.cons (FOk.cons (T16_ok) some3O_ok) uallO_ok
theorem T17_at_uallO (args : List DV) : tab T17 14 args = (F_uallO args).map .o := nrfl _
theorem T17_at_some3O (args : List DV) : tab T17 13 args = (F_some3O args).map .o := nrfl _
theorem T17_at_known3 (args : List DV) : tab T17 12 args = (F_known3 args).map .o := nrfl _
theorem T17_at_srunes (args : List DV) : tab T17 23 args = (F_srunes args).map .o := nrfl _
theorem T17_at_srune (args : List DV) : tab T17 40 args = (F_srune args).map .o := nrfl _
theorem T17_at_rall (args : List DV) : tab T17 15 args = (F_rall args).map .o := nrfl _
theorem T17_at_rform (args : List DV) : tab T17 22 args = (F_rform args).map .o := nrfl _
theorem T17_at_rstep (args : List DV) : tab T17 18 args = (F_rstep args).map .o := nrfl _
theorem T17_at_whole (args : List DV) : tab T17 37 args = (F_whole args).map .o := nrfl _
theorem T17_at_put (args : List DV) : tab T17 21 args = (F_put args).map .o := nrfl _
theorem T17_at_rbegins (args : List DV) : tab T17 20 args = (F_rbegins args).map .o := nrfl _
theorem T17_at_appRune (args : List DV) : tab T17 39 args = (F_appRune args).map .o := nrfl _
theorem T17_at_appNon (args : List DV) : tab T17 50 args = (F_appNon args).map .o := nrfl _
theorem T17_at_step (args : List DV) : tab T17 17 args = (F_step args).map .o := nrfl _
theorem T17_at_ubegins (args : List DV) : tab T17 19 args = (F_ubegins args).map .o := nrfl _
theorem T17_at_decode (args : List DV) : tab T17 36 args = (F_decode args).map .o := nrfl _
theorem T17_at_full (args : List DV) : tab T17 38 args = (F_full args).map .o := nrfl _
theorem T17_at_clone (args : List DV) : tab T17 35 args = (F_clone args).map .o := nrfl _
theorem T17_at_slow (args : List DV) : tab T17 49 args = (F_slow args).map .o := nrfl _
theorem T17_at_may (args : List DV) : tab T17 24 args = (F_may args).map .o := nrfl _
theorem T17_at_runes (args : List DV) : tab T17 16 args = (F_runes args).map .o := nrfl _
theorem T17_b : type_of% (And.intro @T17_at_uallO <| And.intro @F_uallO_1 <| And.intro @T17_at_some3O <| And.intro @F_some3O_1 <| And.intro @T17_at_known3 <| And.intro @F_known3_1 <| And.intro @T17_at_srunes <| And.intro @F_srunes_1 <| And.intro @T17_at_srune <| And.intro @F_srune_1 <| And.intro @T17_at_rall <| And.intro @F_rall_1 <| And.intro @T17_at_rform <| And.intro @F_rform_1 <| And.intro @T17_at_rstep <| And.intro @F_rstep_1 <| And.intro @T17_at_whole <| And.intro @F_whole_1 <| And.intro @T17_at_put <| And.intro @F_put_1 <| And.intro @T17_at_rbegins <| And.intro @F_rbegins_1 <| And.intro @T17_at_appRune <| And.intro @F_appRune_1 <| And.intro @T17_at_appNon <| And.intro @F_appNon_1 <| And.intro @T17_at_step <| And.intro @F_step_1 <| And.intro @T17_at_ubegins <| And.intro @F_ubegins_1 <| And.intro @T17_at_decode <| And.intro @F_decode_1 <| And.intro @T17_at_full <| And.intro @F_full_1 <| And.intro @T17_at_clone <| And.intro @F_clone_nil <| And.intro @F_clone_non <| And.intro @T17_at_slow <| And.intro @F_slow_1 <| And.intro @T17_at_may <| And.intro @F_may_1 <| And.intro @T17_at_runes <| @F_runes_1) := And.intro @T17_at_uallO <| And.intro @F_uallO_1 <| And.intro @T17_at_some3O <| And.intro @F_some3O_1 <| And.intro @T17_at_known3 <| And.intro @F_known3_1 <| And.intro @T17_at_srunes <| And.intro @F_srunes_1 <| And.intro @T17_at_srune <| And.intro @F_srune_1 <| And.intro @T17_at_rall <| And.intro @F_rall_1 <| And.intro @T17_at_rform <| And.intro @F_rform_1 <| And.intro @T17_at_rstep <| And.intro @F_rstep_1 <| And.intro @T17_at_whole <| And.intro @F_whole_1 <| And.intro @T17_at_put <| And.intro @F_put_1 <| And.intro @T17_at_rbegins <| And.intro @F_rbegins_1 <| And.intro @T17_at_appRune <| And.intro @F_appRune_1 <| And.intro @T17_at_appNon <| And.intro @F_appNon_1 <| And.intro @T17_at_step <| And.intro @F_step_1 <| And.intro @T17_at_ubegins <| And.intro @F_ubegins_1 <| And.intro @T17_at_decode <| And.intro @F_decode_1 <| And.intro @T17_at_full <| And.intro @F_full_1 <| And.intro @T17_at_clone <| And.intro @F_clone_nil <| And.intro @F_clone_non <| And.intro @T17_at_slow <| And.intro @F_slow_1 <| And.intro @T17_at_may <| And.intro @F_may_1 <| And.intro @T17_at_runes <| @F_runes_1

theorem ustep_pend {p : List Int} {b : Int} (hb : 0 ≤ b ∧ b ≤ 255) : (ustep p b).1 = [] ∨ ubeg (ustep p b).1 = true := by
  have h1 : (one b).1 = [] ∨ ubeg (one b).1 = true := by
    unfold one
    split
    · exact .inl rfl
    · split
      · rename_i h; right; show ubeg [b] = true; rw [ubeg1 hb]; simpa using h
      · exact .inl rfl
  rw [ustep_eq hb]
  split
  · exact h1
  · split
    · exact .inl rfl
    · split
      · rename_i h; exact .inr h
      · exact h1
theorem uallF_pend {l : List Int} (h : inK .u8 l) : ∀ i, i ≤ l.length → (uallF (l.take i)).2 = [] ∨ ubeg (uallF (l.take i)).2 = true
  | 0, _ => .inl rfl
  | i + 1, hi => by
    rw [List.take_succ_eq_append_getElem (by omega), uallF_snoc]
    exact ustep_pend (h.u8 (List.getElem_mem (by omega)))
theorem utfParts_true (dv : List DV) (h : ConfL [(false, [.sl [.int .u8]]), (false, [.sl [.int .u8]]), (false, [.int .u16])] dv) : PCalls PG 6 dv fun _ r _ => r = .bool true := by
  obtain ⟨a0, r, rfl, h0, h⟩ := h.cons
  obtain ⟨b0, r, rfl, h1, h⟩ := h.cons
  obtain ⟨c0, r, rfl, h2, h⟩ := h.cons
  obtain rfl := h.nil
  obtain ⟨raw, rfl, hraw⟩ := confA_ints h0
  obtain ⟨l, rfl, hl⟩ := confA_ints h1
  obtain ⟨cut, rfl, hcut⟩ := confA_int h2
  clear h h0 h1 h2
  refine (PCalls.by_fn (res := fun n => (.bool true, [])) T17_ok rc_utfParts_ok (by simp [rc_utfParts]) fun n => ?_).mono fun _ _ _ h => h.1
  unfold rc_utfParts
  dsimp only
  simp -implicitDefEqProofs only [T17_b, ↓bindO_iteN, vcA1, vcA2, vcA3, vcA4, vcA5, vcA6, vcA7, ↓vcP1, ↓vcP2, ↓reduceIte, Option.map_some, Option.map_none, Option.bind_some, Option.bind_none, if_true, if_false, reduceCtorEq, beq_true, beq_false, Bool.not_true, Bool.not_false, BEq.rfl, Bool.true_beq, Bool.false_beq, and_true, true_and, and_self, decide_true, decide_false, List.length_cons, List.length_nil, List.all_cons, List.all_nil, Bool.and_true, Bool.and_self, List.getElem?_cons_zero, List.getElem?_cons_succ, List.set_cons_zero, List.set_cons_succ, List.nil_append, List.cons_append, List.append_nil, List.map_cons, List.map_nil, not_true_eq_false, not_false_eq_true, false_implies, true_implies, implies_true, List.take_succ_cons, List.take_zero, List.take_nil, List.drop_succ_cons, List.drop_zero, List.drop_nil, Nat.reduceLT, Nat.reduceLeDiff, Nat.reduceEqDiff, Nat.reduceAdd, Nat.reduceSub, Nat.reduceMul, Int.reduceLT, Int.reduceLE, Int.reduceEq, Int.reduceToNat, Int.reduceAdd, Int.reduceSub, Int.reduceNeg, List.reduceReplicate, List.replicate_zero, List.replicate_succ, ne_eq, List.flatMap_cons, List.flatMap_nil, List.length_replicate, List.length_append, Nat.le_refl, Nat.le_add_right, Nat.add_assoc, List.append_assoc, or_true, true_or, or_false, false_or, and_false, false_and, exists_eq_left, exists_eq_left', Option.some.injEq, DV.int.injEq, DV.bool.injEq, DV.sl.injEq, DV.own.injEq, DV.tup.injEq, List.cons.injEq, Ob.arr.injEq, Ob.box.injEq, Option.map_map, Int.toNat_natCast, Int.toNat_zero, Nat.reducePow, Int.toNat_one, Int.reduceMul, Nat.mul_one, Nat.zero_add, Nat.add_zero, Function.comp_apply, List.map_append, List.map_replicate, Int.cast_ofNat_Int, Nat.left_eq_add, Nat.add_eq_left, Nat.add_left_cancel_iff]
  refine fun g1 g2 => ?_
  have hl1 : inK .u8 l := inK_of hl (by omega)
  have hr1 : inK .u8 raw := inK_of hraw (by omega)
  have hs1 : inK .u8 (someF l) := someF_in l (by omega)
  have hs2 := someF_len l
  have ht : List.take ((someF l).length + raw.length) (someF l ++ raw) = someF l ++ raw := List.take_of_length_le (by simp)
  rw [ht]
  have hb1 : inK .u8 (someF l ++ raw) := hs1.append hr1 (by omega)
  have hb2 : (someF l ++ raw).length ≤ 200 := by rw [List.length_append]; omega
  refine ⟨⟨hl1, by omega⟩, ⟨by omega, by omega⟩, ?_⟩
  generalize someF l ++ raw = b at hb1 hb2 ⊢
  have hcut2 : 0 ≤ cut ∧ cut ≤ 65535 := hcut
  have hw1 : IntKind.i64.wrap cut = cut := wI64 (by omega) (by omega)
  have hw2 : IntKind.i64.wrap ((b.length : Int) + 1) = (b.length : Int) + 1 := wI64 (by omega) (by omega)
  have hm0 : cut.tmod ((b.length : Int) + 1) = cut % ((b.length : Int) + 1) := Int.tmod_eq_emod_of_nonneg hcut2.1
  obtain ⟨k, hk, hk2⟩ : ∃ k : Nat, cut % ((b.length : Int) + 1) = k ∧ k ≤ b.length := by
    have h1 := Int.emod_nonneg cut (show ((b.length : Int) + 1) ≠ 0 by omega)
    have h2 := Int.emod_lt_of_pos cut (show 0 < ((b.length : Int) + 1) by omega)
    exact ⟨(cut % ((b.length : Int) + 1)).toNat, by omega, by omega⟩
  simp only [hw1, hw2, hm0, hk, Int.toNat_natCast, Nat.sub_zero]
  have hbk : inK .u8 (b.take k) := hb1.take k
  refine ⟨by omega, ⟨hb1, by omega⟩, by omega, ⟨by omega, hk2⟩, ⟨hbk, by rw [List.length_take]; omega⟩, ?_⟩
  refine LoopWp.invR T17_ok (S := fun m (i : Nat) => ⟨[(7, .sl 1 (intRows .u8 b) .any), (9, .sl 1 (intRows .i32 (uallF b).1) .any), (10, .sl 1 (intRows .u8 (uallF b).2) .any), (11, .own m 0 (uallF (b.take i)).1.length),
      (12, .sl 1 (intRows .u8 (uallF (b.take i)).2) .any), (13, .int .i64 i)], List.replicate m none ++ [some (.arr 1 (intRows .i32 (uallF (b.take i)).1))]⟩) (I := fun i => k ≤ i ∧ i ≤ b.length) (μ := fun i => b.length - i) n k ⟨by omega, hk2⟩ ?_ ?_
  · simp -implicitDefEqProofs only [vcA1, vcA2, vcA3, vcA4, vcA5, vcA6, vcA7, ↓vcP1, ↓vcP2, ↓reduceIte, Option.map_some, Option.map_none, Option.bind_some, Option.bind_none, if_true, if_false, reduceCtorEq, beq_true, beq_false, Bool.not_true, Bool.not_false, BEq.rfl, Bool.true_beq, Bool.false_beq, and_true, true_and, and_self, decide_true, decide_false, List.length_cons, List.length_nil, List.all_cons, List.all_nil, Bool.and_true, Bool.and_self, List.getElem?_cons_zero, List.getElem?_cons_succ, List.set_cons_zero, List.set_cons_succ, List.nil_append, List.cons_append, List.append_nil, List.map_cons, List.map_nil, not_true_eq_false, not_false_eq_true, false_implies, true_implies, implies_true, List.take_succ_cons, List.take_zero, List.take_nil, List.drop_succ_cons, List.drop_zero, List.drop_nil, Nat.reduceLT, Nat.reduceLeDiff, Nat.reduceEqDiff, Nat.reduceAdd, Nat.reduceSub, Nat.reduceMul, Int.reduceLT, Int.reduceLE, Int.reduceEq, Int.reduceToNat, Int.reduceAdd, Int.reduceSub, Int.reduceNeg, List.reduceReplicate, List.replicate_zero, List.replicate_succ, ne_eq, List.flatMap_cons, List.flatMap_nil, List.length_replicate, List.length_append, Nat.le_refl, Nat.le_add_right, Nat.add_assoc, List.append_assoc, or_true, true_or, or_false, false_or, and_false, false_and, exists_eq_left, exists_eq_left', Option.some.injEq, DV.int.injEq, DV.bool.injEq, DV.sl.injEq, DV.own.injEq, DV.tup.injEq, List.cons.injEq, Ob.arr.injEq, Ob.box.injEq, Option.map_map, Int.toNat_natCast, Int.toNat_zero, Nat.reducePow, Int.toNat_one, Int.reduceMul, Nat.mul_one, Nat.zero_add, Nat.add_zero, Function.comp_apply, List.map_append, List.map_replicate, Int.cast_ofNat_Int, Nat.left_eq_add, Nat.add_eq_left, Nat.add_left_cancel_iff]
    rw [List.take_length]
  · intro m i hm ⟨i1, i2⟩
    unfold rc_utfParts_l0
    simp -implicitDefEqProofs only [T17_b, ints_intRows, vcA1, vcA2, vcA3, vcA4, vcA5, vcA6, vcA7, ↓vcP1, ↓vcP2, ↓reduceIte, Option.map_some, Option.map_none, Option.bind_some, Option.bind_none, if_true, if_false, reduceCtorEq, beq_true, beq_false, Bool.not_true, Bool.not_false, BEq.rfl, Bool.true_beq, Bool.false_beq, and_true, true_and, and_self, decide_true, decide_false, List.length_cons, List.length_nil, List.all_cons, List.all_nil, Bool.and_true, Bool.and_self, List.getElem?_cons_zero, List.getElem?_cons_succ, List.set_cons_zero, List.set_cons_succ, List.nil_append, List.cons_append, List.append_nil, List.map_cons, List.map_nil, not_true_eq_false, not_false_eq_true, false_implies, true_implies, implies_true, List.take_succ_cons, List.take_zero, List.take_nil, List.drop_succ_cons, List.drop_zero, List.drop_nil, Nat.reduceLT, Nat.reduceLeDiff, Nat.reduceEqDiff, Nat.reduceAdd, Nat.reduceSub, Nat.reduceMul, Int.reduceLT, Int.reduceLE, Int.reduceEq, Int.reduceToNat, Int.reduceAdd, Int.reduceSub, Int.reduceNeg, List.reduceReplicate, List.replicate_zero, List.replicate_succ, ne_eq, List.flatMap_cons, List.flatMap_nil, List.length_replicate, List.length_append, Nat.le_refl, Nat.le_add_right, Nat.add_assoc, List.append_assoc, or_true, true_or, or_false, false_or, and_false, false_and, exists_eq_left, exists_eq_left', Option.some.injEq, DV.int.injEq, DV.bool.injEq, DV.sl.injEq, DV.own.injEq, DV.tup.injEq, List.cons.injEq, Ob.arr.injEq, Ob.box.injEq, Option.map_map, Int.toNat_natCast, Int.toNat_zero, Nat.reducePow, Int.toNat_one, Int.reduceMul, Nat.mul_one, Nat.zero_add, Nat.add_zero, Function.comp_apply, List.map_append, List.map_replicate, Int.cast_ofNat_Int, Nat.left_eq_add, Nat.add_eq_left, Nat.add_left_cancel_iff]
    obtain ⟨q1, q2, q3⟩ := uallF_take hb1 i i2
    refine ⟨fun h => ?_, fun h => ?_⟩
    · have h0 : i < b.length := by omega
      have hb := getD_lt hb1 h0
      have h2 := ustep_len (uallF (b.take i)).2 (b.getD i 0)
      have hgd : b.getD i 0 = b[i] := by rw [List.getD_eq_getElem?_getD, List.getElem?_eq_getElem h0]; rfl
      have e : uallF (b.take (i + 1)) = ((uallF (b.take i)).1 ++ (ustep (uallF (b.take i)).2 (b.getD i 0)).2, (ustep (uallF (b.take i)).2 (b.getD i 0)).1) := by
        rw [List.take_succ_eq_append_getElem h0, uallF_snoc, hgd]
      refine ⟨⟨by omega, h⟩, h0, ⟨q1, by omega, hb⟩, ⟨by omega, by omega⟩, by omega, i + 1, ?_, ⟨by omega, by omega⟩, by omega⟩
      rw [e]
      exact ⟨⟨by simp, rfl, by rw [wI64] <;> omega⟩, rfl⟩
    · have h1 : i = b.length := by omega
      subst h1
      have hp := uallF_pend hb1 b.length (Nat.le_refl _)
      have hu := uallF_in hb1 (by omega)
      simp only [List.take_length] at q1 hp ⊢
      rw [b2n rfl, cnd_true]
      refine ⟨⟨hu, hu⟩, fun _ => ⟨fun _ => by omega, fun h3 => ⟨q1, by omega, ?_⟩⟩, fun h => h trivial⟩
      rcases hp with h4 | h4
      · rw [h4] at h3; exact absurd rfl h3
      · exact h4
end Go.Proofs.YteemmpghpdaloaaDoor
end
