/- Texts H12 in one. -/
import Derived.Test.YtjmnbpilnneonaaDoorN7
set_option linter.unusedVariables false
set_option linter.unusedSimpArgs false
set_option maxRecDepth 10000
namespace Go.Proofs.YtjmnbpilnneonaaDoor
open Go.RowKit
noncomputable def rc_tcsi : RFn := ⟨2, 244, .seq (.reg [⟨some 3, .box 6 (.t 1), none, false⟩] 0 [0, 3]) (.seq (.regD (.take ⟨some 7, .load true 6 (.t 3), none, false⟩ [] (.take ⟨some 10, .load true 6 (.t 3), none, false⟩ [] (.take ⟨some 13, .load true 6 (.t 3), none, false⟩ [] (.op ⟨some 8, .call 57 [.t 7, .c (.int .i64 0)], none, false⟩ (.take ⟨some 9, .mm true (.t 8) (.c (.int .i64 1)), none, false⟩ [] (.op ⟨some 11, .call 57 [.t 10, .c (.int .i64 1)], none, false⟩ (.take ⟨some 12, .mm true (.t 11) (.c (.int .i64 1)), none, false⟩ [] (.mid ⟨some 14, .call 57 [.t 13, .c (.int .i64 0)], none, false⟩ (.take ⟨some 4, .mov (.t 9), none, false⟩ [] (.take ⟨some 5, .mov (.t 12), none, false⟩ [] (.take ⟨some 6, .mov (.t 14), none, false⟩ [] .done))))))))))) 0 [0, 3, 4, 5, 6]) (.seq (.seq (.reg [⟨some 15, .faddr 2 (.t 3), none, false⟩, ⟨some 16, .load false 1 (.t 15), none, false⟩] 0 [0, 3, 4, 5, 6, 16]) (.blk 0 (.seq (.reg [⟨some 18, .bin .eql (.t 16) (.c (.int .u8 65)), none, false⟩, ⟨some 17, .mov (.t 18), none, false⟩] 0 [0, 3, 4, 5, 6, 16, 17]) (.cond (.t 17) (.regD (.take ⟨some 19, .mov (.t 0), none, false⟩ [] (.take ⟨some 20, .mov (.t 0), none, false⟩ [] (.take ⟨some 21, .nilck (.t 20), none, false⟩ [] (.take ⟨some 22, .faddr 0 (.t 21), none, false⟩ [] (.take ⟨some 23, .faddr 3 (.t 22), none, false⟩ [] (.take ⟨some 24, .load false 1 (.t 23), none, false⟩ [] (.take ⟨some 25, .mov (.t 4), none, false⟩ [] (.take ⟨some 26, .bin .sub (.t 24) (.t 25), none, false⟩ [] (.take ⟨some 27, .mov (.t 0), none, false⟩ [] (.take ⟨some 28, .nilck (.t 27), none, false⟩ [] (.take ⟨some 29, .faddr 0 (.t 28), none, false⟩ [] (.take ⟨some 30, .faddr 4 (.t 29), none, false⟩ [] (.take ⟨some 31, .load false 1 (.t 30), none, false⟩ [] (.mid ⟨some 32, .call 58 [.t 19, .t 26, .t 31], none, false⟩ .done)))))))))))))) 0 [0]) (.seq (.reg [⟨some 34, .bin .eql (.t 16) (.c (.int .u8 66)), none, false⟩, ⟨some 33, .mov (.t 34), none, false⟩] 0 [0, 3, 4, 5, 6, 16, 33]) (.cond (.t 33) (.regD (.take ⟨some 35, .mov (.t 0), none, false⟩ [] (.take ⟨some 36, .mov (.t 0), none, false⟩ [] (.take ⟨some 37, .nilck (.t 36), none, false⟩ [] (.take ⟨some 38, .faddr 0 (.t 37), none, false⟩ [] (.take ⟨some 39, .faddr 3 (.t 38), none, false⟩ [] (.take ⟨some 40, .load false 1 (.t 39), none, false⟩ [] (.take ⟨some 41, .mov (.t 4), none, false⟩ [] (.take ⟨some 42, .bin .add (.t 40) (.t 41), none, false⟩ [] (.take ⟨some 43, .mov (.t 0), none, false⟩ [] (.take ⟨some 44, .nilck (.t 43), none, false⟩ [] (.take ⟨some 45, .faddr 0 (.t 44), none, false⟩ [] (.take ⟨some 46, .faddr 4 (.t 45), none, false⟩ [] (.take ⟨some 47, .load false 1 (.t 46), none, false⟩ [] (.mid ⟨some 48, .call 58 [.t 35, .t 42, .t 47], none, false⟩ .done)))))))))))))) 0 [0]) (.seq (.reg [⟨some 50, .bin .eql (.t 16) (.c (.int .u8 67)), none, false⟩, ⟨some 49, .mov (.t 50), none, false⟩] 0 [0, 3, 4, 5, 6, 16, 49]) (.cond (.t 49) (.regD (.take ⟨some 51, .mov (.t 0), none, false⟩ [] (.take ⟨some 52, .mov (.t 0), none, false⟩ [] (.take ⟨some 53, .nilck (.t 52), none, false⟩ [] (.take ⟨some 54, .faddr 0 (.t 53), none, false⟩ [] (.take ⟨some 55, .faddr 3 (.t 54), none, false⟩ [] (.take ⟨some 56, .load false 1 (.t 55), none, false⟩ [] (.take ⟨some 57, .mov (.t 0), none, false⟩ [] (.take ⟨some 58, .nilck (.t 57), none, false⟩ [] (.take ⟨some 59, .faddr 0 (.t 58), none, false⟩ [] (.take ⟨some 60, .faddr 4 (.t 59), none, false⟩ [] (.take ⟨some 61, .load false 1 (.t 60), none, false⟩ [] (.take ⟨some 62, .mov (.t 4), none, false⟩ [] (.take ⟨some 63, .bin .add (.t 61) (.t 62), none, false⟩ [] (.mid ⟨some 64, .call 58 [.t 51, .t 56, .t 63], none, false⟩ .done)))))))))))))) 0 [0]) (.seq (.reg [⟨some 66, .bin .eql (.t 16) (.c (.int .u8 68)), none, false⟩, ⟨some 65, .mov (.t 66), none, false⟩] 0 [0, 3, 4, 5, 6, 16, 65]) (.cond (.t 65) (.regD (.take ⟨some 67, .mov (.t 0), none, false⟩ [] (.take ⟨some 68, .mov (.t 0), none, false⟩ [] (.take ⟨some 69, .nilck (.t 68), none, false⟩ [] (.take ⟨some 70, .faddr 0 (.t 69), none, false⟩ [] (.take ⟨some 71, .faddr 3 (.t 70), none, false⟩ [] (.take ⟨some 72, .load false 1 (.t 71), none, false⟩ [] (.take ⟨some 73, .mov (.t 0), none, false⟩ [] (.take ⟨some 74, .nilck (.t 73), none, false⟩ [] (.take ⟨some 75, .faddr 0 (.t 74), none, false⟩ [] (.take ⟨some 76, .faddr 4 (.t 75), none, false⟩ [] (.take ⟨some 77, .load false 1 (.t 76), none, false⟩ [] (.take ⟨some 78, .mov (.t 4), none, false⟩ [] (.take ⟨some 79, .bin .sub (.t 77) (.t 78), none, false⟩ [] (.mid ⟨some 80, .call 58 [.t 67, .t 72, .t 79], none, false⟩ .done)))))))))))))) 0 [0]) (.seq (.seq (.reg [⟨some 82, .bin .eql (.t 16) (.c (.int .u8 71)), none, false⟩, ⟨some 81, .mov (.t 82), none, false⟩] 0 [0, 3, 4, 5, 6, 16, 81]) (.cond (.t 81) .skip (.reg [⟨some 83, .bin .eql (.t 16) (.c (.int .u8 96)), none, false⟩, ⟨some 81, .mov (.t 83), none, false⟩] 0 [0, 3, 4, 5, 6, 16, 81]))) (.cond (.t 81) (.reg [⟨some 84, .mov (.t 0), none, false⟩, ⟨some 85, .mov (.t 0), none, false⟩, ⟨some 86, .nilck (.t 85), none, false⟩, ⟨some 87, .faddr 0 (.t 86), none, false⟩, ⟨some 88, .faddr 3 (.t 87), none, false⟩, ⟨some 89, .load false 1 (.t 88), none, false⟩, ⟨some 90, .mov (.t 4), none, false⟩, ⟨some 91, .bin .sub (.t 90) (.c (.int .i64 1)), none, false⟩, ⟨some 92, .call 58 [.t 84, .t 89, .t 91], none, false⟩] 0 [0]) (.seq (.reg [⟨some 94, .bin .eql (.t 16) (.c (.int .u8 100)), none, false⟩, ⟨some 93, .mov (.t 94), none, false⟩] 0 [0, 3, 4, 5, 6, 16, 93]) (.cond (.t 93) (.reg [⟨some 95, .mov (.t 0), none, false⟩, ⟨some 96, .mov (.t 4), none, false⟩, ⟨some 97, .bin .sub (.t 96) (.c (.int .i64 1)), none, false⟩, ⟨some 98, .mov (.t 0), none, false⟩, ⟨some 99, .nilck (.t 98), none, false⟩, ⟨some 100, .faddr 0 (.t 99), none, false⟩, ⟨some 101, .faddr 4 (.t 100), none, false⟩, ⟨some 102, .load false 1 (.t 101), none, false⟩, ⟨some 103, .call 58 [.t 95, .t 97, .t 102], none, false⟩] 0 [0]) (.seq (.seq (.reg [⟨some 105, .bin .eql (.t 16) (.c (.int .u8 72)), none, false⟩, ⟨some 104, .mov (.t 105), none, false⟩] 0 [0, 3, 4, 5, 6, 16, 104]) (.cond (.t 104) .skip (.reg [⟨some 106, .bin .eql (.t 16) (.c (.int .u8 102)), none, false⟩, ⟨some 104, .mov (.t 106), none, false⟩] 0 [0, 3, 4, 5, 6, 16, 104]))) (.cond (.t 104) (.reg [⟨some 107, .mov (.t 0), none, false⟩, ⟨some 108, .mov (.t 4), none, false⟩, ⟨some 109, .bin .sub (.t 108) (.c (.int .i64 1)), none, false⟩, ⟨some 110, .mov (.t 5), none, false⟩, ⟨some 111, .bin .sub (.t 110) (.c (.int .i64 1)), none, false⟩, ⟨some 112, .call 58 [.t 107, .t 109, .t 111], none, false⟩] 0 [0]) (.seq (.seq (.reg [⟨some 114, .bin .eql (.t 16) (.c (.int .u8 74)), none, false⟩, ⟨some 113, .mov (.t 114), none, false⟩] 0 [0, 3, 4, 6, 16, 113]) (.cond (.t 113) .skip (.reg [⟨some 115, .bin .eql (.t 16) (.c (.int .u8 75)), none, false⟩, ⟨some 113, .mov (.t 115), none, false⟩] 0 [0, 3, 4, 6, 16, 113]))) (.cond (.t 113) (.reg [⟨some 116, .mov (.t 0), none, false⟩, ⟨some 117, .faddr 2 (.t 3), none, false⟩, ⟨some 118, .load false 1 (.t 117), none, false⟩, ⟨some 119, .mov (.t 6), none, false⟩, ⟨some 120, .call 59 [.t 116, .t 118, .t 119], none, false⟩] 0 [0]) (.seq (.seq (.reg [⟨some 122, .bin .eql (.t 16) (.c (.int .u8 76)), none, false⟩, ⟨some 121, .mov (.t 122), none, false⟩] 0 [0, 3, 4, 6, 16, 121]) (.cond (.t 121) .skip (.seq (.reg [⟨some 123, .bin .eql (.t 16) (.c (.int .u8 77)), none, false⟩, ⟨some 121, .mov (.t 123), none, false⟩] 0 [0, 3, 4, 6, 16, 121]) (.cond (.t 121) .skip (.seq (.reg [⟨some 124, .bin .eql (.t 16) (.c (.int .u8 83)), none, false⟩, ⟨some 121, .mov (.t 124), none, false⟩] 0 [0, 3, 4, 6, 16, 121]) (.cond (.t 121) .skip (.reg [⟨some 125, .bin .eql (.t 16) (.c (.int .u8 84)), none, false⟩, ⟨some 121, .mov (.t 125), none, false⟩] 0 [0, 3, 4, 6, 16, 121]))))))) (.cond (.t 121) (.reg [⟨some 126, .mov (.t 0), none, false⟩, ⟨some 127, .faddr 2 (.t 3), none, false⟩, ⟨some 128, .load false 1 (.t 127), none, false⟩, ⟨some 129, .mov (.t 4), none, false⟩, ⟨some 130, .call 60 [.t 126, .t 128, .t 129], none, false⟩] 0 [0]) (.seq (.reg [⟨some 132, .bin .eql (.t 16) (.c (.int .u8 64)), none, false⟩, ⟨some 131, .mov (.t 132), none, false⟩] 0 [0, 3, 4, 6, 16, 131]) (.cond (.t 131) (.regD (.take ⟨some 133, .mov (.t 0), none, false⟩ [] (.take ⟨some 134, .mov (.t 0), none, false⟩ [] (.take ⟨some 135, .nilck (.t 134), none, false⟩ [] (.take ⟨some 136, .faddr 0 (.t 135), none, false⟩ [] (.take ⟨some 137, .faddr 2 (.t 136), none, false⟩ [] (.take ⟨some 138, .load false 1 (.t 137), none, false⟩ [] (.take ⟨some 139, .mov (.t 0), none, false⟩ [] (.take ⟨some 140, .nilck (.t 139), none, false⟩ [] (.take ⟨some 141, .faddr 0 (.t 140), none, false⟩ [] (.take ⟨some 142, .faddr 1 (.t 141), none, false⟩ [] (.take ⟨some 143, .load false 1 (.t 142), none, false⟩ [] (.take ⟨some 144, .mov (.t 0), none, false⟩ [] (.take ⟨some 145, .nilck (.t 144), none, false⟩ [] (.take ⟨some 146, .faddr 0 (.t 145), none, false⟩ [] (.take ⟨some 147, .faddr 3 (.t 146), none, false⟩ [] (.take ⟨some 148, .load false 1 (.t 147), none, false⟩ [] (.take ⟨some 149, .mov (.t 0), none, false⟩ [] (.take ⟨some 150, .nilck (.t 149), none, false⟩ [] (.take ⟨some 151, .faddr 0 (.t 150), none, false⟩ [] (.take ⟨some 152, .faddr 4 (.t 151), none, false⟩ [] (.take ⟨some 153, .load false 1 (.t 152), none, false⟩ [] (.take ⟨some 154, .mov (.t 4), none, false⟩ [] (.mid ⟨some 155, .call 61 [.t 138, .t 143, .t 148, .t 153, .t 154], none, false⟩ (.take ⟨some 156, .nilck (.t 133), none, false⟩ [] (.take ⟨some 157, .faddr 0 (.t 156), none, false⟩ [] (.take ⟨some 158, .faddr 2 (.t 157), none, false⟩ [] (.op ⟨none, .store 1 (.t 158) (.t 155), none, false⟩ .done))))))))))))))))))))))))))) 0 [0]) (.seq (.reg [⟨some 160, .bin .eql (.t 16) (.c (.int .u8 80)), none, false⟩, ⟨some 159, .mov (.t 160), none, false⟩] 0 [0, 3, 4, 6, 16, 159]) (.cond (.t 159) (.regD (.take ⟨some 161, .mov (.t 0), none, false⟩ [] (.take ⟨some 162, .mov (.t 0), none, false⟩ [] (.take ⟨some 163, .nilck (.t 162), none, false⟩ [] (.take ⟨some 164, .faddr 0 (.t 163), none, false⟩ [] (.take ⟨some 165, .faddr 2 (.t 164), none, false⟩ [] (.take ⟨some 166, .load false 1 (.t 165), none, false⟩ [] (.take ⟨some 167, .mov (.t 0), none, false⟩ [] (.take ⟨some 168, .nilck (.t 167), none, false⟩ [] (.take ⟨some 169, .faddr 0 (.t 168), none, false⟩ [] (.take ⟨some 170, .faddr 1 (.t 169), none, false⟩ [] (.take ⟨some 171, .load false 1 (.t 170), none, false⟩ [] (.take ⟨some 172, .mov (.t 0), none, false⟩ [] (.take ⟨some 173, .nilck (.t 172), none, false⟩ [] (.take ⟨some 174, .faddr 0 (.t 173), none, false⟩ [] (.take ⟨some 175, .faddr 3 (.t 174), none, false⟩ [] (.take ⟨some 176, .load false 1 (.t 175), none, false⟩ [] (.take ⟨some 177, .mov (.t 0), none, false⟩ [] (.take ⟨some 178, .nilck (.t 177), none, false⟩ [] (.take ⟨some 179, .faddr 0 (.t 178), none, false⟩ [] (.take ⟨some 180, .faddr 4 (.t 179), none, false⟩ [] (.take ⟨some 181, .load false 1 (.t 180), none, false⟩ [] (.take ⟨some 182, .mov (.t 4), none, false⟩ [] (.mid ⟨some 183, .call 62 [.t 166, .t 171, .t 176, .t 181, .t 182], none, false⟩ (.take ⟨some 184, .nilck (.t 161), none, false⟩ [] (.take ⟨some 185, .faddr 0 (.t 184), none, false⟩ [] (.take ⟨some 186, .faddr 2 (.t 185), none, false⟩ [] (.op ⟨none, .store 1 (.t 186) (.t 183), none, false⟩ .done))))))))))))))))))))))))))) 0 [0]) (.seq (.reg [⟨some 188, .bin .eql (.t 16) (.c (.int .u8 88)), none, false⟩, ⟨some 187, .mov (.t 188), none, false⟩] 0 [0, 3, 4, 6, 16, 187]) (.cond (.t 187) (.regD (.take ⟨some 189, .mov (.t 0), none, false⟩ [] (.take ⟨some 190, .mov (.t 0), none, false⟩ [] (.take ⟨some 191, .nilck (.t 190), none, false⟩ [] (.take ⟨some 192, .faddr 0 (.t 191), none, false⟩ [] (.take ⟨some 193, .faddr 2 (.t 192), none, false⟩ [] (.take ⟨some 194, .load false 1 (.t 193), none, false⟩ [] (.take ⟨some 195, .mov (.t 0), none, false⟩ [] (.take ⟨some 196, .nilck (.t 195), none, false⟩ [] (.take ⟨some 197, .faddr 0 (.t 196), none, false⟩ [] (.take ⟨some 198, .faddr 1 (.t 197), none, false⟩ [] (.take ⟨some 199, .load false 1 (.t 198), none, false⟩ [] (.take ⟨some 200, .mov (.t 0), none, false⟩ [] (.take ⟨some 201, .nilck (.t 200), none, false⟩ [] (.take ⟨some 202, .faddr 0 (.t 201), none, false⟩ [] (.take ⟨some 203, .faddr 3 (.t 202), none, false⟩ [] (.take ⟨some 204, .load false 1 (.t 203), none, false⟩ [] (.take ⟨some 205, .mov (.t 0), none, false⟩ [] (.take ⟨some 206, .nilck (.t 205), none, false⟩ [] (.take ⟨some 207, .faddr 0 (.t 206), none, false⟩ [] (.take ⟨some 208, .faddr 4 (.t 207), none, false⟩ [] (.take ⟨some 209, .load false 1 (.t 208), none, false⟩ [] (.take ⟨some 210, .mov (.t 0), none, false⟩ [] (.take ⟨some 211, .nilck (.t 210), none, false⟩ [] (.take ⟨some 212, .faddr 0 (.t 211), none, false⟩ [] (.take ⟨some 213, .faddr 4 (.t 212), none, false⟩ [] (.take ⟨some 214, .load false 1 (.t 213), none, false⟩ [] (.take ⟨some 215, .mov (.t 4), none, false⟩ [] (.take ⟨some 216, .bin .add (.t 214) (.t 215), none, false⟩ [] (.mid ⟨some 217, .call 63 [.t 194, .t 199, .t 204, .t 209, .t 216], none, false⟩ (.take ⟨some 218, .nilck (.t 189), none, false⟩ [] (.take ⟨some 219, .faddr 0 (.t 218), none, false⟩ [] (.take ⟨some 220, .faddr 2 (.t 219), none, false⟩ [] (.op ⟨none, .store 1 (.t 220) (.t 217), none, false⟩ .done))))))))))))))))))))))))))))))))) 0 [0]) (.seq (.reg [⟨some 222, .bin .eql (.t 16) (.c (.int .u8 114)), none, false⟩, ⟨some 221, .mov (.t 222), none, false⟩] 0 [0, 3, 4, 6, 16, 221]) (.cond (.t 221) (.seq (.reg [⟨some 223, .mov (.t 0), none, false⟩, ⟨some 224, .mov (.t 4), none, false⟩, ⟨some 225, .bin .sub (.t 224) (.c (.int .i64 1)), none, false⟩, ⟨some 226, .load true 6 (.t 3), none, false⟩, ⟨some 227, .call 57 [.t 226, .c (.int .i64 1)], none, false⟩, ⟨some 228, .call 64 [.t 223, .t 225, .t 227], none, false⟩] 0 []) .ret) (.seq (.reg [⟨some 230, .bin .eql (.t 16) (.c (.int .u8 103)), none, false⟩, ⟨some 229, .mov (.t 230), none, false⟩] 0 [0, 3, 6, 16, 229]) (.cond (.t 229) (.seq (.reg [⟨some 231, .mov (.t 0), none, false⟩, ⟨some 232, .mov (.t 6), none, false⟩, ⟨some 233, .call 65 [.t 231, .t 232], none, false⟩] 0 []) .ret) (.seq (.reg [⟨some 235, .bin .eql (.t 16) (.c (.int .u8 109)), none, false⟩, ⟨some 234, .mov (.t 235), none, false⟩] 0 [0, 3, 234]) (.cond (.t 234) (.seq (.reg [⟨some 236, .mov (.t 0), none, false⟩, ⟨some 237, .faddr 4 (.t 3), none, false⟩, ⟨some 238, .load false 1 (.t 237), none, false⟩, ⟨some 239, .call 66 [.t 236, .t 238], none, false⟩] 0 []) .ret) .ret)))))))))))))))))))))))))))))))) (.reg [⟨some 240, .mov (.t 0), none, false⟩, ⟨some 241, .nilck (.t 240), none, false⟩, ⟨some 242, .faddr 0 (.t 241), none, false⟩, ⟨some 243, .faddr 5 (.t 242), none, false⟩, ⟨none, .store 1 (.t 243) (.c (.bool false)), none, false⟩] 0 []))), []⟩
theorem rc_tcsi_ok : compFn PG.P [⟨0, 0, [0, 3], []⟩, ⟨1, 0, [0, 3, 4, 5, 6], []⟩, ⟨2, 0, [0, 3, 4, 5, 6, 16], []⟩, ⟨3, 0, [0, 3, 4, 5, 6, 16, 17], []⟩, ⟨4, 0, [0], []⟩, ⟨5, 0, [0, 3, 4, 5, 6, 16, 33], []⟩, ⟨6, 0, [0], []⟩, ⟨7, 0, [0, 3, 4, 5, 6, 16, 49], []⟩, ⟨8, 0, [0], []⟩, ⟨9, 0, [0, 3, 4, 5, 6, 16, 65], []⟩, ⟨10, 0, [0], []⟩, ⟨11, 0, [0, 3, 4, 5, 6, 16, 81], []⟩, ⟨12, 0, [0, 3, 4, 5, 6, 16, 81], []⟩, ⟨13, 0, [0], []⟩, ⟨14, 0, [0, 3, 4, 5, 6, 16, 93], []⟩, ⟨15, 0, [0], []⟩, ⟨16, 0, [0, 3, 4, 5, 6, 16, 104], []⟩, ⟨17, 0, [0, 3, 4, 5, 6, 16, 104], []⟩, ⟨18, 0, [0], []⟩, ⟨19, 0, [0, 3, 4, 6, 16, 113], []⟩, ⟨20, 0, [0, 3, 4, 6, 16, 113], []⟩, ⟨21, 0, [0], []⟩, ⟨22, 0, [0, 3, 4, 6, 16, 121], []⟩, ⟨23, 0, [0, 3, 4, 6, 16, 121], []⟩, ⟨24, 0, [0, 3, 4, 6, 16, 121], []⟩, ⟨25, 0, [0, 3, 4, 6, 16, 121], []⟩, ⟨26, 0, [0], []⟩, ⟨27, 0, [0, 3, 4, 6, 16, 131], []⟩, ⟨28, 0, [0], []⟩, ⟨29, 0, [0, 3, 4, 6, 16, 159], []⟩, ⟨30, 0, [0], []⟩, ⟨31, 0, [0, 3, 4, 6, 16, 187], []⟩, ⟨32, 0, [0], []⟩, ⟨33, 0, [0, 3, 4, 6, 16, 221], []⟩, ⟨34, 0, [], []⟩, ⟨35, 0, [0, 3, 6, 16, 229], []⟩, ⟨36, 0, [], []⟩, ⟨37, 0, [0, 3, 234], []⟩, ⟨38, 0, [], []⟩, ⟨39, 0, [], []⟩] 34 = some rc_tcsi := by kernel_rfl
theorem parN_in {ps : List Int} (h : ∀ k ∈ ps, 0 ≤ k ∧ k ≤ 65535) (i : Nat) : 0 ≤ parN ps i ∧ parN ps i ≤ 65535 := by
  unfold parN
  rw [List.getD_eq_getElem?_getD]
  rcases hh : ps[i]? with _ | v
  · simp
  · exact h v (List.mem_of_getElem? hh)
theorem inK_P' {l : List Int} (hl : l.length ≤ 1000000) (h : ∀ n ∈ l, 0 ≤ n ∧ n ≤ 65535) : inK .i64 l := ⟨by omega, fun n hn => by have := h n hn; have := i64mm; omega⟩
theorem TH11_n_to (args : List DV) : tab TH11 58 args = none := nrfl _
theorem TH11_n_erase (args : List DV) : tab TH11 59 args = none := nrfl _
theorem TH11_n_rows (args : List DV) : tab TH11 60 args = none := nrfl _
theorem TH11_n_ins (args : List DV) : tab TH11 61 args = none := nrfl _
theorem TH11_n_del (args : List DV) : tab TH11 62 args = none := nrfl _
theorem TH11_n_era (args : List DV) : tab TH11 63 args = none := nrfl _
theorem TH11_n_reg (args : List DV) : tab TH11 64 args = none := nrfl _
theorem TH11_n_clr (args : List DV) : tab TH11 65 args = none := nrfl _
theorem TH11_n_att (args : List DV) : tab TH11 66 args = none := nrfl _
theorem tcsi_65 {T0 T : Objs} {o : Nat} {s : Sc} {p : Pa} {sz : Nat} {sk : SK} {ps : List Int} {ka r pv : Int} {d2 : DV} {K : DV → Objs → Prop} (hs : sz = 1 ∨ ps = []) (hl : ps.length ≤ 1000000) (hps : ∀ k ∈ ps, 0 ≤ k ∧ k ≤ 65535) (hd2 : DV.one d2 = true) (ok : ScOk s) (h : TermAt T0 T o s p)
    (hK : ∀ T', T.length ≤ T'.length → TermAt T0 T' o (csiF s 65 ps) p → K (.tup []) T') : CallK PG 34 [.ptr o 0 0, acD ka r 65 pv (.sl sz (intRows .i64 ps) sk) d2] T K := by
  unfold acD
  obtain ⟨k0, q, tq, od, m, pr, d1, e2, e3, pa, t⟩ := id h
  have hb := t.box
  unfold tmBox at hb
  have hr := ok.g.r
  have hc := ok.g.c
  have hy := ok.y
  have hx := ok.x
  have p0 := parN_in hps 0
  have p1 := parN_in hps 1
  have i1 : isInts .i64 (.sl sz (intRows .i64 ps) sk) := isInts_mk hs (inK_P' hl hps)
  have w1 : IntKind.i64.wrap ((s.y : Int) - max (parN ps 0) 1) = (s.y : Int) - max (parN ps 0) 1 := wI64 (by omega) (by omega)
  refine CallK.of_fn TH11_ok rc_tcsi_ok (by simp [rc_tcsi]) ?_
  unfold rc_tcsi
  dsimp only
  simp -implicitDefEqProofs -dsimp only [tb_at, tb_all hb, hd2, TH11_at, F_rpar_1, i1, hl, intsD_sl, TH11_n_to, TH11_n_erase, TH11_n_rows, TH11_n_ins, TH11_n_del, TH11_n_era, TH11_n_reg, TH11_n_clr, TH11_n_att, w1, vcS, ↓vcP1, ↓vcP2, ↓reduceIte, reduceCtorEq, Nat.reduceLT, Nat.reduceLeDiff, Nat.reduceEqDiff, Nat.reduceAdd, Nat.reduceSub, Nat.reduceMul, Int.reduceLT, Int.reduceLE, Int.reduceEq, Int.reduceToNat, Int.reduceAdd, Int.reduceSub, Int.reduceNeg, List.reduceReplicate, Nat.reducePow, Int.reduceMul]
  have h1 : TermAt T0 (T ++ [some (Ob.box [.int .i64 ka, .int .i32 r, .int .u8 65, .int .u8 pv, .sl sz (intRows .i64 ps) sk, d2])]) o s p := h.keep (Keep.app _ _ _)
  refine tto_K hr hc h1 fun T' l t' => ?_
  obtain ⟨k1, q', tq', od', m', pr', f1, f2, f3, pa', t2⟩ := t'
  have hb2 := t2.box
  unfold tmBox at hb2
  simp -implicitDefEqProofs -dsimp only [tb_at, tb_all hb2, vcS, ↓vcP1, ↓vcP2, ↓reduceIte, reduceCtorEq, Nat.reduceLT, Nat.reduceLeDiff, Nat.reduceEqDiff, Nat.reduceAdd, Nat.reduceSub, Nat.reduceMul, Int.reduceLT, Int.reduceLE, Int.reduceEq, Int.reduceToNat, Int.reduceAdd, Int.reduceSub, Int.reduceNeg, List.reduceReplicate, Nat.reducePow, Int.reduceMul]
  have ll : T.length ≤ T'.length := by simp at l; omega
  exact ⟨by simpa using ll, hK _ (by simpa using ll) (TermAt.mk (s := csiF s 65 ps) (k1.put t2.no _) pa' (t2.put rfl rfl rfl rfl rfl))⟩
theorem tcsi_66 {T0 T : Objs} {o : Nat} {s : Sc} {p : Pa} {sz : Nat} {sk : SK} {ps : List Int} {ka r pv : Int} {d2 : DV} {K : DV → Objs → Prop} (hs : sz = 1 ∨ ps = []) (hl : ps.length ≤ 1000000) (hps : ∀ k ∈ ps, 0 ≤ k ∧ k ≤ 65535) (hd2 : DV.one d2 = true) (ok : ScOk s) (h : TermAt T0 T o s p)
    (hK : ∀ T', T.length ≤ T'.length → TermAt T0 T' o (csiF s 66 ps) p → K (.tup []) T') : CallK PG 34 [.ptr o 0 0, acD ka r 66 pv (.sl sz (intRows .i64 ps) sk) d2] T K := by
  unfold acD
  obtain ⟨k0, q, tq, od, m, pr, d1, e2, e3, pa, t⟩ := id h
  have hb := t.box
  unfold tmBox at hb
  have hr := ok.g.r
  have hc := ok.g.c
  have hy := ok.y
  have hx := ok.x
  have p0 := parN_in hps 0
  have p1 := parN_in hps 1
  have i1 : isInts .i64 (.sl sz (intRows .i64 ps) sk) := isInts_mk hs (inK_P' hl hps)
  have w1 : IntKind.i64.wrap ((s.y : Int) + max (parN ps 0) 1) = (s.y : Int) + max (parN ps 0) 1 := wI64 (by omega) (by omega)
  refine CallK.of_fn TH11_ok rc_tcsi_ok (by simp [rc_tcsi]) ?_
  unfold rc_tcsi
  dsimp only
  simp -implicitDefEqProofs -dsimp only [tb_at, tb_all hb, hd2, TH11_at, F_rpar_1, i1, hl, intsD_sl, TH11_n_to, TH11_n_erase, TH11_n_rows, TH11_n_ins, TH11_n_del, TH11_n_era, TH11_n_reg, TH11_n_clr, TH11_n_att, w1, vcS, ↓vcP1, ↓vcP2, ↓reduceIte, reduceCtorEq, Nat.reduceLT, Nat.reduceLeDiff, Nat.reduceEqDiff, Nat.reduceAdd, Nat.reduceSub, Nat.reduceMul, Int.reduceLT, Int.reduceLE, Int.reduceEq, Int.reduceToNat, Int.reduceAdd, Int.reduceSub, Int.reduceNeg, List.reduceReplicate, Nat.reducePow, Int.reduceMul]
  have h1 : TermAt T0 (T ++ [some (Ob.box [.int .i64 ka, .int .i32 r, .int .u8 66, .int .u8 pv, .sl sz (intRows .i64 ps) sk, d2])]) o s p := h.keep (Keep.app _ _ _)
  refine tto_K hr hc h1 fun T' l t' => ?_
  obtain ⟨k1, q', tq', od', m', pr', f1, f2, f3, pa', t2⟩ := t'
  have hb2 := t2.box
  unfold tmBox at hb2
  simp -implicitDefEqProofs -dsimp only [tb_at, tb_all hb2, vcS, ↓vcP1, ↓vcP2, ↓reduceIte, reduceCtorEq, Nat.reduceLT, Nat.reduceLeDiff, Nat.reduceEqDiff, Nat.reduceAdd, Nat.reduceSub, Nat.reduceMul, Int.reduceLT, Int.reduceLE, Int.reduceEq, Int.reduceToNat, Int.reduceAdd, Int.reduceSub, Int.reduceNeg, List.reduceReplicate, Nat.reducePow, Int.reduceMul]
  have ll : T.length ≤ T'.length := by simp at l; omega
  exact ⟨by simpa using ll, hK _ (by simpa using ll) (TermAt.mk (s := csiF s 66 ps) (k1.put t2.no _) pa' (t2.put rfl rfl rfl rfl rfl))⟩
theorem tcsi_67 {T0 T : Objs} {o : Nat} {s : Sc} {p : Pa} {sz : Nat} {sk : SK} {ps : List Int} {ka r pv : Int} {d2 : DV} {K : DV → Objs → Prop} (hs : sz = 1 ∨ ps = []) (hl : ps.length ≤ 1000000) (hps : ∀ k ∈ ps, 0 ≤ k ∧ k ≤ 65535) (hd2 : DV.one d2 = true) (ok : ScOk s) (h : TermAt T0 T o s p)
    (hK : ∀ T', T.length ≤ T'.length → TermAt T0 T' o (csiF s 67 ps) p → K (.tup []) T') : CallK PG 34 [.ptr o 0 0, acD ka r 67 pv (.sl sz (intRows .i64 ps) sk) d2] T K := by
  unfold acD
  obtain ⟨k0, q, tq, od, m, pr, d1, e2, e3, pa, t⟩ := id h
  have hb := t.box
  unfold tmBox at hb
  have hr := ok.g.r
  have hc := ok.g.c
  have hy := ok.y
  have hx := ok.x
  have p0 := parN_in hps 0
  have p1 := parN_in hps 1
  have i1 : isInts .i64 (.sl sz (intRows .i64 ps) sk) := isInts_mk hs (inK_P' hl hps)
  have w2 : IntKind.i64.wrap ((s.x : Int) + max (parN ps 0) 1) = (s.x : Int) + max (parN ps 0) 1 := wI64 (by omega) (by omega)
  refine CallK.of_fn TH11_ok rc_tcsi_ok (by simp [rc_tcsi]) ?_
  unfold rc_tcsi
  dsimp only
  simp -implicitDefEqProofs -dsimp only [tb_at, tb_all hb, hd2, TH11_at, F_rpar_1, i1, hl, intsD_sl, TH11_n_to, TH11_n_erase, TH11_n_rows, TH11_n_ins, TH11_n_del, TH11_n_era, TH11_n_reg, TH11_n_clr, TH11_n_att, w2, vcS, ↓vcP1, ↓vcP2, ↓reduceIte, reduceCtorEq, Nat.reduceLT, Nat.reduceLeDiff, Nat.reduceEqDiff, Nat.reduceAdd, Nat.reduceSub, Nat.reduceMul, Int.reduceLT, Int.reduceLE, Int.reduceEq, Int.reduceToNat, Int.reduceAdd, Int.reduceSub, Int.reduceNeg, List.reduceReplicate, Nat.reducePow, Int.reduceMul]
  have h1 : TermAt T0 (T ++ [some (Ob.box [.int .i64 ka, .int .i32 r, .int .u8 67, .int .u8 pv, .sl sz (intRows .i64 ps) sk, d2])]) o s p := h.keep (Keep.app _ _ _)
  refine tto_K hr hc h1 fun T' l t' => ?_
  obtain ⟨k1, q', tq', od', m', pr', f1, f2, f3, pa', t2⟩ := t'
  have hb2 := t2.box
  unfold tmBox at hb2
  simp -implicitDefEqProofs -dsimp only [tb_at, tb_all hb2, vcS, ↓vcP1, ↓vcP2, ↓reduceIte, reduceCtorEq, Nat.reduceLT, Nat.reduceLeDiff, Nat.reduceEqDiff, Nat.reduceAdd, Nat.reduceSub, Nat.reduceMul, Int.reduceLT, Int.reduceLE, Int.reduceEq, Int.reduceToNat, Int.reduceAdd, Int.reduceSub, Int.reduceNeg, List.reduceReplicate, Nat.reducePow, Int.reduceMul]
  have ll : T.length ≤ T'.length := by simp at l; omega
  exact ⟨by simpa using ll, hK _ (by simpa using ll) (TermAt.mk (s := csiF s 67 ps) (k1.put t2.no _) pa' (t2.put rfl rfl rfl rfl rfl))⟩
theorem tcsi_68 {T0 T : Objs} {o : Nat} {s : Sc} {p : Pa} {sz : Nat} {sk : SK} {ps : List Int} {ka r pv : Int} {d2 : DV} {K : DV → Objs → Prop} (hs : sz = 1 ∨ ps = []) (hl : ps.length ≤ 1000000) (hps : ∀ k ∈ ps, 0 ≤ k ∧ k ≤ 65535) (hd2 : DV.one d2 = true) (ok : ScOk s) (h : TermAt T0 T o s p)
    (hK : ∀ T', T.length ≤ T'.length → TermAt T0 T' o (csiF s 68 ps) p → K (.tup []) T') : CallK PG 34 [.ptr o 0 0, acD ka r 68 pv (.sl sz (intRows .i64 ps) sk) d2] T K := by
  unfold acD
  obtain ⟨k0, q, tq, od, m, pr, d1, e2, e3, pa, t⟩ := id h
  have hb := t.box
  unfold tmBox at hb
  have hr := ok.g.r
  have hc := ok.g.c
  have hy := ok.y
  have hx := ok.x
  have p0 := parN_in hps 0
  have p1 := parN_in hps 1
  have i1 : isInts .i64 (.sl sz (intRows .i64 ps) sk) := isInts_mk hs (inK_P' hl hps)
  have w2 : IntKind.i64.wrap ((s.x : Int) - max (parN ps 0) 1) = (s.x : Int) - max (parN ps 0) 1 := wI64 (by omega) (by omega)
  refine CallK.of_fn TH11_ok rc_tcsi_ok (by simp [rc_tcsi]) ?_
  unfold rc_tcsi
  dsimp only
  simp -implicitDefEqProofs -dsimp only [tb_at, tb_all hb, hd2, TH11_at, F_rpar_1, i1, hl, intsD_sl, TH11_n_to, TH11_n_erase, TH11_n_rows, TH11_n_ins, TH11_n_del, TH11_n_era, TH11_n_reg, TH11_n_clr, TH11_n_att, w2, vcS, ↓vcP1, ↓vcP2, ↓reduceIte, reduceCtorEq, Nat.reduceLT, Nat.reduceLeDiff, Nat.reduceEqDiff, Nat.reduceAdd, Nat.reduceSub, Nat.reduceMul, Int.reduceLT, Int.reduceLE, Int.reduceEq, Int.reduceToNat, Int.reduceAdd, Int.reduceSub, Int.reduceNeg, List.reduceReplicate, Nat.reducePow, Int.reduceMul]
  have h1 : TermAt T0 (T ++ [some (Ob.box [.int .i64 ka, .int .i32 r, .int .u8 68, .int .u8 pv, .sl sz (intRows .i64 ps) sk, d2])]) o s p := h.keep (Keep.app _ _ _)
  refine tto_K hr hc h1 fun T' l t' => ?_
  obtain ⟨k1, q', tq', od', m', pr', f1, f2, f3, pa', t2⟩ := t'
  have hb2 := t2.box
  unfold tmBox at hb2
  simp -implicitDefEqProofs -dsimp only [tb_at, tb_all hb2, vcS, ↓vcP1, ↓vcP2, ↓reduceIte, reduceCtorEq, Nat.reduceLT, Nat.reduceLeDiff, Nat.reduceEqDiff, Nat.reduceAdd, Nat.reduceSub, Nat.reduceMul, Int.reduceLT, Int.reduceLE, Int.reduceEq, Int.reduceToNat, Int.reduceAdd, Int.reduceSub, Int.reduceNeg, List.reduceReplicate, Nat.reducePow, Int.reduceMul]
  have ll : T.length ≤ T'.length := by simp at l; omega
  exact ⟨by simpa using ll, hK _ (by simpa using ll) (TermAt.mk (s := csiF s 68 ps) (k1.put t2.no _) pa' (t2.put rfl rfl rfl rfl rfl))⟩
theorem tcsi_71 {T0 T : Objs} {o : Nat} {s : Sc} {p : Pa} {sz : Nat} {sk : SK} {ps : List Int} {ka r pv : Int} {d2 : DV} {K : DV → Objs → Prop} (hs : sz = 1 ∨ ps = []) (hl : ps.length ≤ 1000000) (hps : ∀ k ∈ ps, 0 ≤ k ∧ k ≤ 65535) (hd2 : DV.one d2 = true) (ok : ScOk s) (h : TermAt T0 T o s p)
    (hK : ∀ T', T.length ≤ T'.length → TermAt T0 T' o (csiF s 71 ps) p → K (.tup []) T') : CallK PG 34 [.ptr o 0 0, acD ka r 71 pv (.sl sz (intRows .i64 ps) sk) d2] T K := by
  unfold acD
  obtain ⟨k0, q, tq, od, m, pr, d1, e2, e3, pa, t⟩ := id h
  have hb := t.box
  unfold tmBox at hb
  have hr := ok.g.r
  have hc := ok.g.c
  have hy := ok.y
  have hx := ok.x
  have p0 := parN_in hps 0
  have p1 := parN_in hps 1
  have i1 : isInts .i64 (.sl sz (intRows .i64 ps) sk) := isInts_mk hs (inK_P' hl hps)
  have w2 : IntKind.i64.wrap (max (parN ps 0) 1 - 1) = max (parN ps 0) 1 - 1 := wI64 (by omega) (by omega)
  refine CallK.of_fn TH11_ok rc_tcsi_ok (by simp [rc_tcsi]) ?_
  unfold rc_tcsi
  dsimp only
  simp -implicitDefEqProofs -dsimp only [tb_at, tb_all hb, hd2, TH11_at, F_rpar_1, i1, hl, intsD_sl, TH11_n_to, TH11_n_erase, TH11_n_rows, TH11_n_ins, TH11_n_del, TH11_n_era, TH11_n_reg, TH11_n_clr, TH11_n_att, w2, vcS, ↓vcP1, ↓vcP2, ↓reduceIte, reduceCtorEq, Nat.reduceLT, Nat.reduceLeDiff, Nat.reduceEqDiff, Nat.reduceAdd, Nat.reduceSub, Nat.reduceMul, Int.reduceLT, Int.reduceLE, Int.reduceEq, Int.reduceToNat, Int.reduceAdd, Int.reduceSub, Int.reduceNeg, List.reduceReplicate, Nat.reducePow, Int.reduceMul]
  have h1 : TermAt T0 (T ++ [some (Ob.box [.int .i64 ka, .int .i32 r, .int .u8 71, .int .u8 pv, .sl sz (intRows .i64 ps) sk, d2])]) o s p := h.keep (Keep.app _ _ _)
  refine tto_K hr hc h1 fun T' l t' => ?_
  obtain ⟨k1, q', tq', od', m', pr', f1, f2, f3, pa', t2⟩ := t'
  have hb2 := t2.box
  unfold tmBox at hb2
  simp -implicitDefEqProofs -dsimp only [tb_at, tb_all hb2, vcS, ↓vcP1, ↓vcP2, ↓reduceIte, reduceCtorEq, Nat.reduceLT, Nat.reduceLeDiff, Nat.reduceEqDiff, Nat.reduceAdd, Nat.reduceSub, Nat.reduceMul, Int.reduceLT, Int.reduceLE, Int.reduceEq, Int.reduceToNat, Int.reduceAdd, Int.reduceSub, Int.reduceNeg, List.reduceReplicate, Nat.reducePow, Int.reduceMul]
  have ll : T.length ≤ T'.length := by simp at l; omega
  exact ⟨by simpa using ll, hK _ (by simpa using ll) (TermAt.mk (s := csiF s 71 ps) (k1.put t2.no _) pa' (t2.put rfl rfl rfl rfl rfl))⟩
theorem tcsi_96 {T0 T : Objs} {o : Nat} {s : Sc} {p : Pa} {sz : Nat} {sk : SK} {ps : List Int} {ka r pv : Int} {d2 : DV} {K : DV → Objs → Prop} (hs : sz = 1 ∨ ps = []) (hl : ps.length ≤ 1000000) (hps : ∀ k ∈ ps, 0 ≤ k ∧ k ≤ 65535) (hd2 : DV.one d2 = true) (ok : ScOk s) (h : TermAt T0 T o s p)
    (hK : ∀ T', T.length ≤ T'.length → TermAt T0 T' o (csiF s 96 ps) p → K (.tup []) T') : CallK PG 34 [.ptr o 0 0, acD ka r 96 pv (.sl sz (intRows .i64 ps) sk) d2] T K := by
  unfold acD
  obtain ⟨k0, q, tq, od, m, pr, d1, e2, e3, pa, t⟩ := id h
  have hb := t.box
  unfold tmBox at hb
  have hr := ok.g.r
  have hc := ok.g.c
  have hy := ok.y
  have hx := ok.x
  have p0 := parN_in hps 0
  have p1 := parN_in hps 1
  have i1 : isInts .i64 (.sl sz (intRows .i64 ps) sk) := isInts_mk hs (inK_P' hl hps)
  have w2 : IntKind.i64.wrap (max (parN ps 0) 1 - 1) = max (parN ps 0) 1 - 1 := wI64 (by omega) (by omega)
  refine CallK.of_fn TH11_ok rc_tcsi_ok (by simp [rc_tcsi]) ?_
  unfold rc_tcsi
  dsimp only
  simp -implicitDefEqProofs -dsimp only [tb_at, tb_all hb, hd2, TH11_at, F_rpar_1, i1, hl, intsD_sl, TH11_n_to, TH11_n_erase, TH11_n_rows, TH11_n_ins, TH11_n_del, TH11_n_era, TH11_n_reg, TH11_n_clr, TH11_n_att, w2, vcS, ↓vcP1, ↓vcP2, ↓reduceIte, reduceCtorEq, Nat.reduceLT, Nat.reduceLeDiff, Nat.reduceEqDiff, Nat.reduceAdd, Nat.reduceSub, Nat.reduceMul, Int.reduceLT, Int.reduceLE, Int.reduceEq, Int.reduceToNat, Int.reduceAdd, Int.reduceSub, Int.reduceNeg, List.reduceReplicate, Nat.reducePow, Int.reduceMul]
  have h1 : TermAt T0 (T ++ [some (Ob.box [.int .i64 ka, .int .i32 r, .int .u8 96, .int .u8 pv, .sl sz (intRows .i64 ps) sk, d2])]) o s p := h.keep (Keep.app _ _ _)
  refine tto_K hr hc h1 fun T' l t' => ?_
  obtain ⟨k1, q', tq', od', m', pr', f1, f2, f3, pa', t2⟩ := t'
  have hb2 := t2.box
  unfold tmBox at hb2
  simp -implicitDefEqProofs -dsimp only [tb_at, tb_all hb2, vcS, ↓vcP1, ↓vcP2, ↓reduceIte, reduceCtorEq, Nat.reduceLT, Nat.reduceLeDiff, Nat.reduceEqDiff, Nat.reduceAdd, Nat.reduceSub, Nat.reduceMul, Int.reduceLT, Int.reduceLE, Int.reduceEq, Int.reduceToNat, Int.reduceAdd, Int.reduceSub, Int.reduceNeg, List.reduceReplicate, Nat.reducePow, Int.reduceMul]
  have ll : T.length ≤ T'.length := by simp at l; omega
  exact ⟨by simpa using ll, hK _ (by simpa using ll) (TermAt.mk (s := csiF s 96 ps) (k1.put t2.no _) pa' (t2.put rfl rfl rfl rfl rfl))⟩
theorem tcsi_100 {T0 T : Objs} {o : Nat} {s : Sc} {p : Pa} {sz : Nat} {sk : SK} {ps : List Int} {ka r pv : Int} {d2 : DV} {K : DV → Objs → Prop} (hs : sz = 1 ∨ ps = []) (hl : ps.length ≤ 1000000) (hps : ∀ k ∈ ps, 0 ≤ k ∧ k ≤ 65535) (hd2 : DV.one d2 = true) (ok : ScOk s) (h : TermAt T0 T o s p)
    (hK : ∀ T', T.length ≤ T'.length → TermAt T0 T' o (csiF s 100 ps) p → K (.tup []) T') : CallK PG 34 [.ptr o 0 0, acD ka r 100 pv (.sl sz (intRows .i64 ps) sk) d2] T K := by
  unfold acD
  obtain ⟨k0, q, tq, od, m, pr, d1, e2, e3, pa, t⟩ := id h
  have hb := t.box
  unfold tmBox at hb
  have hr := ok.g.r
  have hc := ok.g.c
  have hy := ok.y
  have hx := ok.x
  have p0 := parN_in hps 0
  have p1 := parN_in hps 1
  have i1 : isInts .i64 (.sl sz (intRows .i64 ps) sk) := isInts_mk hs (inK_P' hl hps)
  have w1 : IntKind.i64.wrap (max (parN ps 0) 1 - 1) = max (parN ps 0) 1 - 1 := wI64 (by omega) (by omega)
  refine CallK.of_fn TH11_ok rc_tcsi_ok (by simp [rc_tcsi]) ?_
  unfold rc_tcsi
  dsimp only
  simp -implicitDefEqProofs -dsimp only [tb_at, tb_all hb, hd2, TH11_at, F_rpar_1, i1, hl, intsD_sl, TH11_n_to, TH11_n_erase, TH11_n_rows, TH11_n_ins, TH11_n_del, TH11_n_era, TH11_n_reg, TH11_n_clr, TH11_n_att, w1, vcS, ↓vcP1, ↓vcP2, ↓reduceIte, reduceCtorEq, Nat.reduceLT, Nat.reduceLeDiff, Nat.reduceEqDiff, Nat.reduceAdd, Nat.reduceSub, Nat.reduceMul, Int.reduceLT, Int.reduceLE, Int.reduceEq, Int.reduceToNat, Int.reduceAdd, Int.reduceSub, Int.reduceNeg, List.reduceReplicate, Nat.reducePow, Int.reduceMul]
  have h1 : TermAt T0 (T ++ [some (Ob.box [.int .i64 ka, .int .i32 r, .int .u8 100, .int .u8 pv, .sl sz (intRows .i64 ps) sk, d2])]) o s p := h.keep (Keep.app _ _ _)
  refine tto_K hr hc h1 fun T' l t' => ?_
  obtain ⟨k1, q', tq', od', m', pr', f1, f2, f3, pa', t2⟩ := t'
  have hb2 := t2.box
  unfold tmBox at hb2
  simp -implicitDefEqProofs -dsimp only [tb_at, tb_all hb2, vcS, ↓vcP1, ↓vcP2, ↓reduceIte, reduceCtorEq, Nat.reduceLT, Nat.reduceLeDiff, Nat.reduceEqDiff, Nat.reduceAdd, Nat.reduceSub, Nat.reduceMul, Int.reduceLT, Int.reduceLE, Int.reduceEq, Int.reduceToNat, Int.reduceAdd, Int.reduceSub, Int.reduceNeg, List.reduceReplicate, Nat.reducePow, Int.reduceMul]
  have ll : T.length ≤ T'.length := by simp at l; omega
  exact ⟨by simpa using ll, hK _ (by simpa using ll) (TermAt.mk (s := csiF s 100 ps) (k1.put t2.no _) pa' (t2.put rfl rfl rfl rfl rfl))⟩
theorem tcsi_72 {T0 T : Objs} {o : Nat} {s : Sc} {p : Pa} {sz : Nat} {sk : SK} {ps : List Int} {ka r pv : Int} {d2 : DV} {K : DV → Objs → Prop} (hs : sz = 1 ∨ ps = []) (hl : ps.length ≤ 1000000) (hps : ∀ k ∈ ps, 0 ≤ k ∧ k ≤ 65535) (hd2 : DV.one d2 = true) (ok : ScOk s) (h : TermAt T0 T o s p)
    (hK : ∀ T', T.length ≤ T'.length → TermAt T0 T' o (csiF s 72 ps) p → K (.tup []) T') : CallK PG 34 [.ptr o 0 0, acD ka r 72 pv (.sl sz (intRows .i64 ps) sk) d2] T K := by
  unfold acD
  obtain ⟨k0, q, tq, od, m, pr, d1, e2, e3, pa, t⟩ := id h
  have hb := t.box
  unfold tmBox at hb
  have hr := ok.g.r
  have hc := ok.g.c
  have hy := ok.y
  have hx := ok.x
  have p0 := parN_in hps 0
  have p1 := parN_in hps 1
  have i1 : isInts .i64 (.sl sz (intRows .i64 ps) sk) := isInts_mk hs (inK_P' hl hps)
  have w1 : IntKind.i64.wrap (max (parN ps 0) 1 - 1) = max (parN ps 0) 1 - 1 := wI64 (by omega) (by omega)
  have w2 : IntKind.i64.wrap (max (parN ps 1) 1 - 1) = max (parN ps 1) 1 - 1 := wI64 (by omega) (by omega)
  refine CallK.of_fn TH11_ok rc_tcsi_ok (by simp [rc_tcsi]) ?_
  unfold rc_tcsi
  dsimp only
  simp -implicitDefEqProofs -dsimp only [tb_at, tb_all hb, hd2, TH11_at, F_rpar_1, i1, hl, intsD_sl, TH11_n_to, TH11_n_erase, TH11_n_rows, TH11_n_ins, TH11_n_del, TH11_n_era, TH11_n_reg, TH11_n_clr, TH11_n_att, w1, w2, vcS, ↓vcP1, ↓vcP2, ↓reduceIte, reduceCtorEq, Nat.reduceLT, Nat.reduceLeDiff, Nat.reduceEqDiff, Nat.reduceAdd, Nat.reduceSub, Nat.reduceMul, Int.reduceLT, Int.reduceLE, Int.reduceEq, Int.reduceToNat, Int.reduceAdd, Int.reduceSub, Int.reduceNeg, List.reduceReplicate, Nat.reducePow, Int.reduceMul]
  have h1 : TermAt T0 (T ++ [some (Ob.box [.int .i64 ka, .int .i32 r, .int .u8 72, .int .u8 pv, .sl sz (intRows .i64 ps) sk, d2])]) o s p := h.keep (Keep.app _ _ _)
  refine tto_K hr hc h1 fun T' l t' => ?_
  obtain ⟨k1, q', tq', od', m', pr', f1, f2, f3, pa', t2⟩ := t'
  have hb2 := t2.box
  unfold tmBox at hb2
  simp -implicitDefEqProofs -dsimp only [tb_at, tb_all hb2, vcS, ↓vcP1, ↓vcP2, ↓reduceIte, reduceCtorEq, Nat.reduceLT, Nat.reduceLeDiff, Nat.reduceEqDiff, Nat.reduceAdd, Nat.reduceSub, Nat.reduceMul, Int.reduceLT, Int.reduceLE, Int.reduceEq, Int.reduceToNat, Int.reduceAdd, Int.reduceSub, Int.reduceNeg, List.reduceReplicate, Nat.reducePow, Int.reduceMul]
  have ll : T.length ≤ T'.length := by simp at l; omega
  exact ⟨by simpa using ll, hK _ (by simpa using ll) (TermAt.mk (s := csiF s 72 ps) (k1.put t2.no _) pa' (t2.put rfl rfl rfl rfl rfl))⟩
theorem tcsi_102 {T0 T : Objs} {o : Nat} {s : Sc} {p : Pa} {sz : Nat} {sk : SK} {ps : List Int} {ka r pv : Int} {d2 : DV} {K : DV → Objs → Prop} (hs : sz = 1 ∨ ps = []) (hl : ps.length ≤ 1000000) (hps : ∀ k ∈ ps, 0 ≤ k ∧ k ≤ 65535) (hd2 : DV.one d2 = true) (ok : ScOk s) (h : TermAt T0 T o s p)
    (hK : ∀ T', T.length ≤ T'.length → TermAt T0 T' o (csiF s 102 ps) p → K (.tup []) T') : CallK PG 34 [.ptr o 0 0, acD ka r 102 pv (.sl sz (intRows .i64 ps) sk) d2] T K := by
  unfold acD
  obtain ⟨k0, q, tq, od, m, pr, d1, e2, e3, pa, t⟩ := id h
  have hb := t.box
  unfold tmBox at hb
  have hr := ok.g.r
  have hc := ok.g.c
  have hy := ok.y
  have hx := ok.x
  have p0 := parN_in hps 0
  have p1 := parN_in hps 1
  have i1 : isInts .i64 (.sl sz (intRows .i64 ps) sk) := isInts_mk hs (inK_P' hl hps)
  have w1 : IntKind.i64.wrap (max (parN ps 0) 1 - 1) = max (parN ps 0) 1 - 1 := wI64 (by omega) (by omega)
  have w2 : IntKind.i64.wrap (max (parN ps 1) 1 - 1) = max (parN ps 1) 1 - 1 := wI64 (by omega) (by omega)
  refine CallK.of_fn TH11_ok rc_tcsi_ok (by simp [rc_tcsi]) ?_
  unfold rc_tcsi
  dsimp only
  simp -implicitDefEqProofs -dsimp only [tb_at, tb_all hb, hd2, TH11_at, F_rpar_1, i1, hl, intsD_sl, TH11_n_to, TH11_n_erase, TH11_n_rows, TH11_n_ins, TH11_n_del, TH11_n_era, TH11_n_reg, TH11_n_clr, TH11_n_att, w1, w2, vcS, ↓vcP1, ↓vcP2, ↓reduceIte, reduceCtorEq, Nat.reduceLT, Nat.reduceLeDiff, Nat.reduceEqDiff, Nat.reduceAdd, Nat.reduceSub, Nat.reduceMul, Int.reduceLT, Int.reduceLE, Int.reduceEq, Int.reduceToNat, Int.reduceAdd, Int.reduceSub, Int.reduceNeg, List.reduceReplicate, Nat.reducePow, Int.reduceMul]
  have h1 : TermAt T0 (T ++ [some (Ob.box [.int .i64 ka, .int .i32 r, .int .u8 102, .int .u8 pv, .sl sz (intRows .i64 ps) sk, d2])]) o s p := h.keep (Keep.app _ _ _)
  refine tto_K hr hc h1 fun T' l t' => ?_
  obtain ⟨k1, q', tq', od', m', pr', f1, f2, f3, pa', t2⟩ := t'
  have hb2 := t2.box
  unfold tmBox at hb2
  simp -implicitDefEqProofs -dsimp only [tb_at, tb_all hb2, vcS, ↓vcP1, ↓vcP2, ↓reduceIte, reduceCtorEq, Nat.reduceLT, Nat.reduceLeDiff, Nat.reduceEqDiff, Nat.reduceAdd, Nat.reduceSub, Nat.reduceMul, Int.reduceLT, Int.reduceLE, Int.reduceEq, Int.reduceToNat, Int.reduceAdd, Int.reduceSub, Int.reduceNeg, List.reduceReplicate, Nat.reducePow, Int.reduceMul]
  have ll : T.length ≤ T'.length := by simp at l; omega
  exact ⟨by simpa using ll, hK _ (by simpa using ll) (TermAt.mk (s := csiF s 102 ps) (k1.put t2.no _) pa' (t2.put rfl rfl rfl rfl rfl))⟩
theorem tcsi_74 {T0 T : Objs} {o : Nat} {s : Sc} {p : Pa} {sz : Nat} {sk : SK} {ps : List Int} {ka r pv : Int} {d2 : DV} {K : DV → Objs → Prop} (hs : sz = 1 ∨ ps = []) (hl : ps.length ≤ 1000000) (hps : ∀ k ∈ ps, 0 ≤ k ∧ k ≤ 65535) (hd2 : DV.one d2 = true) (ok : ScOk s) (h : TermAt T0 T o s p)
    (hK : ∀ T', T.length ≤ T'.length → TermAt T0 T' o (csiF s 74 ps) p → K (.tup []) T') : CallK PG 34 [.ptr o 0 0, acD ka r 74 pv (.sl sz (intRows .i64 ps) sk) d2] T K := by
  unfold acD
  obtain ⟨k0, q, tq, od, m, pr, d1, e2, e3, pa, t⟩ := id h
  have hb := t.box
  unfold tmBox at hb
  have hr := ok.g.r
  have hc := ok.g.c
  have hy := ok.y
  have hx := ok.x
  have p0 := parN_in hps 0
  have p1 := parN_in hps 1
  have i1 : isInts .i64 (.sl sz (intRows .i64 ps) sk) := isInts_mk hs (inK_P' hl hps)
  refine CallK.of_fn TH11_ok rc_tcsi_ok (by simp [rc_tcsi]) ?_
  unfold rc_tcsi
  dsimp only
  simp -implicitDefEqProofs -dsimp only [tb_at, tb_all hb, hd2, TH11_at, F_rpar_1, i1, hl, intsD_sl, TH11_n_to, TH11_n_erase, TH11_n_rows, TH11_n_ins, TH11_n_del, TH11_n_era, TH11_n_reg, TH11_n_clr, TH11_n_att, vcS, ↓vcP1, ↓vcP2, ↓reduceIte, reduceCtorEq, Nat.reduceLT, Nat.reduceLeDiff, Nat.reduceEqDiff, Nat.reduceAdd, Nat.reduceSub, Nat.reduceMul, Int.reduceLT, Int.reduceLE, Int.reduceEq, Int.reduceToNat, Int.reduceAdd, Int.reduceSub, Int.reduceNeg, List.reduceReplicate, Nat.reducePow, Int.reduceMul]
  have h1 : TermAt T0 (T ++ [some (Ob.box [.int .i64 ka, .int .i32 r, .int .u8 74, .int .u8 pv, .sl sz (intRows .i64 ps) sk, d2])]) o s p := h.keep (Keep.app _ _ _)
  refine terase_K (row := false) ok h1 fun T' l t' => ?_
  obtain ⟨k1, q', tq', od', m', pr', f1, f2, f3, pa', t2⟩ := t'
  have hb2 := t2.box
  unfold tmBox at hb2
  simp -implicitDefEqProofs -dsimp only [tb_at, tb_all hb2, vcS, ↓vcP1, ↓vcP2, ↓reduceIte, reduceCtorEq, Nat.reduceLT, Nat.reduceLeDiff, Nat.reduceEqDiff, Nat.reduceAdd, Nat.reduceSub, Nat.reduceMul, Int.reduceLT, Int.reduceLE, Int.reduceEq, Int.reduceToNat, Int.reduceAdd, Int.reduceSub, Int.reduceNeg, List.reduceReplicate, Nat.reducePow, Int.reduceMul]
  have ll : T.length ≤ T'.length := by simp at l; omega
  exact ⟨by simpa using ll, hK _ (by simpa using ll) (by rw [csi_erase.1]; exact .mk (k1.put t2.no _) pa' (t2.put rfl rfl rfl rfl rfl))⟩
theorem tcsi_75 {T0 T : Objs} {o : Nat} {s : Sc} {p : Pa} {sz : Nat} {sk : SK} {ps : List Int} {ka r pv : Int} {d2 : DV} {K : DV → Objs → Prop} (hs : sz = 1 ∨ ps = []) (hl : ps.length ≤ 1000000) (hps : ∀ k ∈ ps, 0 ≤ k ∧ k ≤ 65535) (hd2 : DV.one d2 = true) (ok : ScOk s) (h : TermAt T0 T o s p)
    (hK : ∀ T', T.length ≤ T'.length → TermAt T0 T' o (csiF s 75 ps) p → K (.tup []) T') : CallK PG 34 [.ptr o 0 0, acD ka r 75 pv (.sl sz (intRows .i64 ps) sk) d2] T K := by
  unfold acD
  obtain ⟨k0, q, tq, od, m, pr, d1, e2, e3, pa, t⟩ := id h
  have hb := t.box
  unfold tmBox at hb
  have hr := ok.g.r
  have hc := ok.g.c
  have hy := ok.y
  have hx := ok.x
  have p0 := parN_in hps 0
  have p1 := parN_in hps 1
  have i1 : isInts .i64 (.sl sz (intRows .i64 ps) sk) := isInts_mk hs (inK_P' hl hps)
  refine CallK.of_fn TH11_ok rc_tcsi_ok (by simp [rc_tcsi]) ?_
  unfold rc_tcsi
  dsimp only
  simp -implicitDefEqProofs -dsimp only [tb_at, tb_all hb, hd2, TH11_at, F_rpar_1, i1, hl, intsD_sl, TH11_n_to, TH11_n_erase, TH11_n_rows, TH11_n_ins, TH11_n_del, TH11_n_era, TH11_n_reg, TH11_n_clr, TH11_n_att, vcS, ↓vcP1, ↓vcP2, ↓reduceIte, reduceCtorEq, Nat.reduceLT, Nat.reduceLeDiff, Nat.reduceEqDiff, Nat.reduceAdd, Nat.reduceSub, Nat.reduceMul, Int.reduceLT, Int.reduceLE, Int.reduceEq, Int.reduceToNat, Int.reduceAdd, Int.reduceSub, Int.reduceNeg, List.reduceReplicate, Nat.reducePow, Int.reduceMul]
  have h1 : TermAt T0 (T ++ [some (Ob.box [.int .i64 ka, .int .i32 r, .int .u8 75, .int .u8 pv, .sl sz (intRows .i64 ps) sk, d2])]) o s p := h.keep (Keep.app _ _ _)
  refine terase_K (row := true) ok h1 fun T' l t' => ?_
  obtain ⟨k1, q', tq', od', m', pr', f1, f2, f3, pa', t2⟩ := t'
  have hb2 := t2.box
  unfold tmBox at hb2
  simp -implicitDefEqProofs -dsimp only [tb_at, tb_all hb2, vcS, ↓vcP1, ↓vcP2, ↓reduceIte, reduceCtorEq, Nat.reduceLT, Nat.reduceLeDiff, Nat.reduceEqDiff, Nat.reduceAdd, Nat.reduceSub, Nat.reduceMul, Int.reduceLT, Int.reduceLE, Int.reduceEq, Int.reduceToNat, Int.reduceAdd, Int.reduceSub, Int.reduceNeg, List.reduceReplicate, Nat.reducePow, Int.reduceMul]
  have ll : T.length ≤ T'.length := by simp at l; omega
  exact ⟨by simpa using ll, hK _ (by simpa using ll) (by rw [csi_erase.2]; exact .mk (k1.put t2.no _) pa' (t2.put rfl rfl rfl rfl rfl))⟩
theorem tcsi_76 {T0 T : Objs} {o : Nat} {s : Sc} {p : Pa} {sz : Nat} {sk : SK} {ps : List Int} {ka r pv : Int} {d2 : DV} {K : DV → Objs → Prop} (hs : sz = 1 ∨ ps = []) (hl : ps.length ≤ 1000000) (hps : ∀ k ∈ ps, 0 ≤ k ∧ k ≤ 65535) (hd2 : DV.one d2 = true) (ok : ScOk s) (h : TermAt T0 T o s p)
    (hK : ∀ T', T.length ≤ T'.length → TermAt T0 T' o (csiF s 76 ps) p → K (.tup []) T') : CallK PG 34 [.ptr o 0 0, acD ka r 76 pv (.sl sz (intRows .i64 ps) sk) d2] T K := by
  unfold acD
  obtain ⟨k0, q, tq, od, m, pr, d1, e2, e3, pa, t⟩ := id h
  have hb := t.box
  unfold tmBox at hb
  have hr := ok.g.r
  have hc := ok.g.c
  have hy := ok.y
  have hx := ok.x
  have p0 := parN_in hps 0
  have p1 := parN_in hps 1
  have i1 : isInts .i64 (.sl sz (intRows .i64 ps) sk) := isInts_mk hs (inK_P' hl hps)
  refine CallK.of_fn TH11_ok rc_tcsi_ok (by simp [rc_tcsi]) ?_
  unfold rc_tcsi
  dsimp only
  simp -implicitDefEqProofs -dsimp only [tb_at, tb_all hb, hd2, TH11_at, F_rpar_1, i1, hl, intsD_sl, TH11_n_to, TH11_n_erase, TH11_n_rows, TH11_n_ins, TH11_n_del, TH11_n_era, TH11_n_reg, TH11_n_clr, TH11_n_att, vcS, ↓vcP1, ↓vcP2, ↓reduceIte, reduceCtorEq, Nat.reduceLT, Nat.reduceLeDiff, Nat.reduceEqDiff, Nat.reduceAdd, Nat.reduceSub, Nat.reduceMul, Int.reduceLT, Int.reduceLE, Int.reduceEq, Int.reduceToNat, Int.reduceAdd, Int.reduceSub, Int.reduceNeg, List.reduceReplicate, Nat.reducePow, Int.reduceMul]
  have h1 : TermAt T0 (T ++ [some (Ob.box [.int .i64 ka, .int .i32 r, .int .u8 76, .int .u8 pv, .sl sz (intRows .i64 ps) sk, d2])]) o s p := h.keep (Keep.app _ _ _)
  refine trows_K (n := max (parN ps 0) 1) ok (by decide) h1 fun T' l t' => ?_
  obtain ⟨k1, q', tq', od', m', pr', f1, f2, f3, pa', t2⟩ := t'
  have hb2 := t2.box
  unfold tmBox at hb2
  simp -implicitDefEqProofs -dsimp only [tb_at, tb_all hb2, vcS, ↓vcP1, ↓vcP2, ↓reduceIte, reduceCtorEq, Nat.reduceLT, Nat.reduceLeDiff, Nat.reduceEqDiff, Nat.reduceAdd, Nat.reduceSub, Nat.reduceMul, Int.reduceLT, Int.reduceLE, Int.reduceEq, Int.reduceToNat, Int.reduceAdd, Int.reduceSub, Int.reduceNeg, List.reduceReplicate, Nat.reducePow, Int.reduceMul]
  have ll : T.length ≤ T'.length := by simp at l; omega
  exact ⟨by simpa using ll, hK _ (by simpa using ll) (by rw [csi_rows (by decide)]; exact .mk (k1.put t2.no _) pa' (t2.put rfl rfl rfl rfl rfl))⟩
theorem tcsi_77 {T0 T : Objs} {o : Nat} {s : Sc} {p : Pa} {sz : Nat} {sk : SK} {ps : List Int} {ka r pv : Int} {d2 : DV} {K : DV → Objs → Prop} (hs : sz = 1 ∨ ps = []) (hl : ps.length ≤ 1000000) (hps : ∀ k ∈ ps, 0 ≤ k ∧ k ≤ 65535) (hd2 : DV.one d2 = true) (ok : ScOk s) (h : TermAt T0 T o s p)
    (hK : ∀ T', T.length ≤ T'.length → TermAt T0 T' o (csiF s 77 ps) p → K (.tup []) T') : CallK PG 34 [.ptr o 0 0, acD ka r 77 pv (.sl sz (intRows .i64 ps) sk) d2] T K := by
  unfold acD
  obtain ⟨k0, q, tq, od, m, pr, d1, e2, e3, pa, t⟩ := id h
  have hb := t.box
  unfold tmBox at hb
  have hr := ok.g.r
  have hc := ok.g.c
  have hy := ok.y
  have hx := ok.x
  have p0 := parN_in hps 0
  have p1 := parN_in hps 1
  have i1 : isInts .i64 (.sl sz (intRows .i64 ps) sk) := isInts_mk hs (inK_P' hl hps)
  refine CallK.of_fn TH11_ok rc_tcsi_ok (by simp [rc_tcsi]) ?_
  unfold rc_tcsi
  dsimp only
  simp -implicitDefEqProofs -dsimp only [tb_at, tb_all hb, hd2, TH11_at, F_rpar_1, i1, hl, intsD_sl, TH11_n_to, TH11_n_erase, TH11_n_rows, TH11_n_ins, TH11_n_del, TH11_n_era, TH11_n_reg, TH11_n_clr, TH11_n_att, vcS, ↓vcP1, ↓vcP2, ↓reduceIte, reduceCtorEq, Nat.reduceLT, Nat.reduceLeDiff, Nat.reduceEqDiff, Nat.reduceAdd, Nat.reduceSub, Nat.reduceMul, Int.reduceLT, Int.reduceLE, Int.reduceEq, Int.reduceToNat, Int.reduceAdd, Int.reduceSub, Int.reduceNeg, List.reduceReplicate, Nat.reducePow, Int.reduceMul]
  have h1 : TermAt T0 (T ++ [some (Ob.box [.int .i64 ka, .int .i32 r, .int .u8 77, .int .u8 pv, .sl sz (intRows .i64 ps) sk, d2])]) o s p := h.keep (Keep.app _ _ _)
  refine trows_K (n := max (parN ps 0) 1) ok (by decide) h1 fun T' l t' => ?_
  obtain ⟨k1, q', tq', od', m', pr', f1, f2, f3, pa', t2⟩ := t'
  have hb2 := t2.box
  unfold tmBox at hb2
  simp -implicitDefEqProofs -dsimp only [tb_at, tb_all hb2, vcS, ↓vcP1, ↓vcP2, ↓reduceIte, reduceCtorEq, Nat.reduceLT, Nat.reduceLeDiff, Nat.reduceEqDiff, Nat.reduceAdd, Nat.reduceSub, Nat.reduceMul, Int.reduceLT, Int.reduceLE, Int.reduceEq, Int.reduceToNat, Int.reduceAdd, Int.reduceSub, Int.reduceNeg, List.reduceReplicate, Nat.reducePow, Int.reduceMul]
  have ll : T.length ≤ T'.length := by simp at l; omega
  exact ⟨by simpa using ll, hK _ (by simpa using ll) (by rw [csi_rows (by decide)]; exact .mk (k1.put t2.no _) pa' (t2.put rfl rfl rfl rfl rfl))⟩
theorem tcsi_83 {T0 T : Objs} {o : Nat} {s : Sc} {p : Pa} {sz : Nat} {sk : SK} {ps : List Int} {ka r pv : Int} {d2 : DV} {K : DV → Objs → Prop} (hs : sz = 1 ∨ ps = []) (hl : ps.length ≤ 1000000) (hps : ∀ k ∈ ps, 0 ≤ k ∧ k ≤ 65535) (hd2 : DV.one d2 = true) (ok : ScOk s) (h : TermAt T0 T o s p)
    (hK : ∀ T', T.length ≤ T'.length → TermAt T0 T' o (csiF s 83 ps) p → K (.tup []) T') : CallK PG 34 [.ptr o 0 0, acD ka r 83 pv (.sl sz (intRows .i64 ps) sk) d2] T K := by
  unfold acD
  obtain ⟨k0, q, tq, od, m, pr, d1, e2, e3, pa, t⟩ := id h
  have hb := t.box
  unfold tmBox at hb
  have hr := ok.g.r
  have hc := ok.g.c
  have hy := ok.y
  have hx := ok.x
  have p0 := parN_in hps 0
  have p1 := parN_in hps 1
  have i1 : isInts .i64 (.sl sz (intRows .i64 ps) sk) := isInts_mk hs (inK_P' hl hps)
  refine CallK.of_fn TH11_ok rc_tcsi_ok (by simp [rc_tcsi]) ?_
  unfold rc_tcsi
  dsimp only
  simp -implicitDefEqProofs -dsimp only [tb_at, tb_all hb, hd2, TH11_at, F_rpar_1, i1, hl, intsD_sl, TH11_n_to, TH11_n_erase, TH11_n_rows, TH11_n_ins, TH11_n_del, TH11_n_era, TH11_n_reg, TH11_n_clr, TH11_n_att, vcS, ↓vcP1, ↓vcP2, ↓reduceIte, reduceCtorEq, Nat.reduceLT, Nat.reduceLeDiff, Nat.reduceEqDiff, Nat.reduceAdd, Nat.reduceSub, Nat.reduceMul, Int.reduceLT, Int.reduceLE, Int.reduceEq, Int.reduceToNat, Int.reduceAdd, Int.reduceSub, Int.reduceNeg, List.reduceReplicate, Nat.reducePow, Int.reduceMul]
  have h1 : TermAt T0 (T ++ [some (Ob.box [.int .i64 ka, .int .i32 r, .int .u8 83, .int .u8 pv, .sl sz (intRows .i64 ps) sk, d2])]) o s p := h.keep (Keep.app _ _ _)
  refine trows_K (n := max (parN ps 0) 1) ok (by decide) h1 fun T' l t' => ?_
  obtain ⟨k1, q', tq', od', m', pr', f1, f2, f3, pa', t2⟩ := t'
  have hb2 := t2.box
  unfold tmBox at hb2
  simp -implicitDefEqProofs -dsimp only [tb_at, tb_all hb2, vcS, ↓vcP1, ↓vcP2, ↓reduceIte, reduceCtorEq, Nat.reduceLT, Nat.reduceLeDiff, Nat.reduceEqDiff, Nat.reduceAdd, Nat.reduceSub, Nat.reduceMul, Int.reduceLT, Int.reduceLE, Int.reduceEq, Int.reduceToNat, Int.reduceAdd, Int.reduceSub, Int.reduceNeg, List.reduceReplicate, Nat.reducePow, Int.reduceMul]
  have ll : T.length ≤ T'.length := by simp at l; omega
  exact ⟨by simpa using ll, hK _ (by simpa using ll) (by rw [csi_rows (by decide)]; exact .mk (k1.put t2.no _) pa' (t2.put rfl rfl rfl rfl rfl))⟩
theorem tcsi_84 {T0 T : Objs} {o : Nat} {s : Sc} {p : Pa} {sz : Nat} {sk : SK} {ps : List Int} {ka r pv : Int} {d2 : DV} {K : DV → Objs → Prop} (hs : sz = 1 ∨ ps = []) (hl : ps.length ≤ 1000000) (hps : ∀ k ∈ ps, 0 ≤ k ∧ k ≤ 65535) (hd2 : DV.one d2 = true) (ok : ScOk s) (h : TermAt T0 T o s p)
    (hK : ∀ T', T.length ≤ T'.length → TermAt T0 T' o (csiF s 84 ps) p → K (.tup []) T') : CallK PG 34 [.ptr o 0 0, acD ka r 84 pv (.sl sz (intRows .i64 ps) sk) d2] T K := by
  unfold acD
  obtain ⟨k0, q, tq, od, m, pr, d1, e2, e3, pa, t⟩ := id h
  have hb := t.box
  unfold tmBox at hb
  have hr := ok.g.r
  have hc := ok.g.c
  have hy := ok.y
  have hx := ok.x
  have p0 := parN_in hps 0
  have p1 := parN_in hps 1
  have i1 : isInts .i64 (.sl sz (intRows .i64 ps) sk) := isInts_mk hs (inK_P' hl hps)
  refine CallK.of_fn TH11_ok rc_tcsi_ok (by simp [rc_tcsi]) ?_
  unfold rc_tcsi
  dsimp only
  simp -implicitDefEqProofs -dsimp only [tb_at, tb_all hb, hd2, TH11_at, F_rpar_1, i1, hl, intsD_sl, TH11_n_to, TH11_n_erase, TH11_n_rows, TH11_n_ins, TH11_n_del, TH11_n_era, TH11_n_reg, TH11_n_clr, TH11_n_att, vcS, ↓vcP1, ↓vcP2, ↓reduceIte, reduceCtorEq, Nat.reduceLT, Nat.reduceLeDiff, Nat.reduceEqDiff, Nat.reduceAdd, Nat.reduceSub, Nat.reduceMul, Int.reduceLT, Int.reduceLE, Int.reduceEq, Int.reduceToNat, Int.reduceAdd, Int.reduceSub, Int.reduceNeg, List.reduceReplicate, Nat.reducePow, Int.reduceMul]
  have h1 : TermAt T0 (T ++ [some (Ob.box [.int .i64 ka, .int .i32 r, .int .u8 84, .int .u8 pv, .sl sz (intRows .i64 ps) sk, d2])]) o s p := h.keep (Keep.app _ _ _)
  refine trows_K (n := max (parN ps 0) 1) ok (by decide) h1 fun T' l t' => ?_
  obtain ⟨k1, q', tq', od', m', pr', f1, f2, f3, pa', t2⟩ := t'
  have hb2 := t2.box
  unfold tmBox at hb2
  simp -implicitDefEqProofs -dsimp only [tb_at, tb_all hb2, vcS, ↓vcP1, ↓vcP2, ↓reduceIte, reduceCtorEq, Nat.reduceLT, Nat.reduceLeDiff, Nat.reduceEqDiff, Nat.reduceAdd, Nat.reduceSub, Nat.reduceMul, Int.reduceLT, Int.reduceLE, Int.reduceEq, Int.reduceToNat, Int.reduceAdd, Int.reduceSub, Int.reduceNeg, List.reduceReplicate, Nat.reducePow, Int.reduceMul]
  have ll : T.length ≤ T'.length := by simp at l; omega
  exact ⟨by simpa using ll, hK _ (by simpa using ll) (by rw [csi_rows (by decide)]; exact .mk (k1.put t2.no _) pa' (t2.put rfl rfl rfl rfl rfl))⟩
theorem tcsi_64 {T0 T : Objs} {o : Nat} {s : Sc} {p : Pa} {sz : Nat} {sk : SK} {ps : List Int} {ka r pv : Int} {d2 : DV} {K : DV → Objs → Prop} (hs : sz = 1 ∨ ps = []) (hl : ps.length ≤ 1000000) (hps : ∀ k ∈ ps, 0 ≤ k ∧ k ≤ 65535) (hd2 : DV.one d2 = true) (ok : ScOk s) (h : TermAt T0 T o s p)
    (hK : ∀ T', T.length ≤ T'.length → TermAt T0 T' o (csiF s 64 ps) p → K (.tup []) T') : CallK PG 34 [.ptr o 0 0, acD ka r 64 pv (.sl sz (intRows .i64 ps) sk) d2] T K := by
  unfold acD
  obtain ⟨k0, q, tq, od, m, pr, d1, e2, e3, pa, t⟩ := id h
  have hb := t.box
  unfold tmBox at hb
  have hr := ok.g.r
  have hc := ok.g.c
  have hy := ok.y
  have hx := ok.x
  have p0 := parN_in hps 0
  have p1 := parN_in hps 1
  have i1 : isInts .i64 (.sl sz (intRows .i64 ps) sk) := isInts_mk hs (inK_P' hl hps)
  refine CallK.of_fn TH11_ok rc_tcsi_ok (by simp [rc_tcsi]) ?_
  unfold rc_tcsi
  dsimp only
  simp -implicitDefEqProofs -dsimp only [tb_at, tb_all hb, hd2, TH11_at, F_rpar_1, i1, hl, intsD_sl, TH11_n_to, TH11_n_erase, TH11_n_rows, TH11_n_ins, TH11_n_del, TH11_n_era, TH11_n_reg, TH11_n_clr, TH11_n_att, vcS, ↓vcP1, ↓vcP2, ↓reduceIte, reduceCtorEq, Nat.reduceLT, Nat.reduceLeDiff, Nat.reduceEqDiff, Nat.reduceAdd, Nat.reduceSub, Nat.reduceMul, Int.reduceLT, Int.reduceLE, Int.reduceEq, Int.reduceToNat, Int.reduceAdd, Int.reduceSub, Int.reduceNeg, List.reduceReplicate, Nat.reducePow, Int.reduceMul]
  have t1 := t.mono (Keep.app T [some (Ob.box [.int .i64 ka, .int .i32 r, .int .u8 64, .int .u8 pv, .sl sz (intRows .i64 ps) sk, d2])] [])
  have kk := k0.newApp [some (Ob.box [.int .i64 ka, .int .i32 r, .int .u8 64, .int .u8 pv, .sl sz (intRows .i64 ps) sk, d2])]
  refine gins_K t1.cells ok.g ok.y (Nat.le_of_lt hx) fun T' p' hp hc' k => ?_
  have hb2 := k.at t1.box (by simp)
  unfold tmBox at hb2
  simp -implicitDefEqProofs -dsimp only [tb_at, tb_all hb2, List.set_set, vcS, ↓vcP1, ↓vcP2, ↓reduceIte, reduceCtorEq, Nat.reduceLT, Nat.reduceLeDiff, Nat.reduceEqDiff, Nat.reduceAdd, Nat.reduceSub, Nat.reduceMul, Int.reduceLT, Int.reduceLE, Int.reduceEq, Int.reduceToNat, Int.reduceAdd, Int.reduceSub, Int.reduceNeg, List.reduceReplicate, Nat.reducePow, Int.reduceMul]
  have ll : T.length ≤ T'.length := by have := k.1; simp at this; omega
  exact ⟨by simpa using ll, hK _ (by simpa using ll) (TermAt.newG (s2 := { s with wrap := false }) pa kk t1 k hp hc' (insF_len ok.g ok.y) rfl rfl rfl)⟩
theorem tcsi_80 {T0 T : Objs} {o : Nat} {s : Sc} {p : Pa} {sz : Nat} {sk : SK} {ps : List Int} {ka r pv : Int} {d2 : DV} {K : DV → Objs → Prop} (hs : sz = 1 ∨ ps = []) (hl : ps.length ≤ 1000000) (hps : ∀ k ∈ ps, 0 ≤ k ∧ k ≤ 65535) (hd2 : DV.one d2 = true) (ok : ScOk s) (h : TermAt T0 T o s p)
    (hK : ∀ T', T.length ≤ T'.length → TermAt T0 T' o (csiF s 80 ps) p → K (.tup []) T') : CallK PG 34 [.ptr o 0 0, acD ka r 80 pv (.sl sz (intRows .i64 ps) sk) d2] T K := by
  unfold acD
  obtain ⟨k0, q, tq, od, m, pr, d1, e2, e3, pa, t⟩ := id h
  have hb := t.box
  unfold tmBox at hb
  have hr := ok.g.r
  have hc := ok.g.c
  have hy := ok.y
  have hx := ok.x
  have p0 := parN_in hps 0
  have p1 := parN_in hps 1
  have i1 : isInts .i64 (.sl sz (intRows .i64 ps) sk) := isInts_mk hs (inK_P' hl hps)
  refine CallK.of_fn TH11_ok rc_tcsi_ok (by simp [rc_tcsi]) ?_
  unfold rc_tcsi
  dsimp only
  simp -implicitDefEqProofs -dsimp only [tb_at, tb_all hb, hd2, TH11_at, F_rpar_1, i1, hl, intsD_sl, TH11_n_to, TH11_n_erase, TH11_n_rows, TH11_n_ins, TH11_n_del, TH11_n_era, TH11_n_reg, TH11_n_clr, TH11_n_att, vcS, ↓vcP1, ↓vcP2, ↓reduceIte, reduceCtorEq, Nat.reduceLT, Nat.reduceLeDiff, Nat.reduceEqDiff, Nat.reduceAdd, Nat.reduceSub, Nat.reduceMul, Int.reduceLT, Int.reduceLE, Int.reduceEq, Int.reduceToNat, Int.reduceAdd, Int.reduceSub, Int.reduceNeg, List.reduceReplicate, Nat.reducePow, Int.reduceMul]
  have t1 := t.mono (Keep.app T [some (Ob.box [.int .i64 ka, .int .i32 r, .int .u8 80, .int .u8 pv, .sl sz (intRows .i64 ps) sk, d2])] [])
  have kk := k0.newApp [some (Ob.box [.int .i64 ka, .int .i32 r, .int .u8 80, .int .u8 pv, .sl sz (intRows .i64 ps) sk, d2])]
  refine gdel_K t1.cells ok.g ok.y (Nat.le_of_lt hx) fun T' p' hp hc' k => ?_
  have hb2 := k.at t1.box (by simp)
  unfold tmBox at hb2
  simp -implicitDefEqProofs -dsimp only [tb_at, tb_all hb2, List.set_set, vcS, ↓vcP1, ↓vcP2, ↓reduceIte, reduceCtorEq, Nat.reduceLT, Nat.reduceLeDiff, Nat.reduceEqDiff, Nat.reduceAdd, Nat.reduceSub, Nat.reduceMul, Int.reduceLT, Int.reduceLE, Int.reduceEq, Int.reduceToNat, Int.reduceAdd, Int.reduceSub, Int.reduceNeg, List.reduceReplicate, Nat.reducePow, Int.reduceMul]
  have ll : T.length ≤ T'.length := by have := k.1; simp at this; omega
  exact ⟨by simpa using ll, hK _ (by simpa using ll) (TermAt.newG (s2 := { s with wrap := false }) pa kk t1 k hp hc' (delF_len ok.g ok.y) rfl rfl rfl)⟩
theorem tcsi_88 {T0 T : Objs} {o : Nat} {s : Sc} {p : Pa} {sz : Nat} {sk : SK} {ps : List Int} {ka r pv : Int} {d2 : DV} {K : DV → Objs → Prop} (hs : sz = 1 ∨ ps = []) (hl : ps.length ≤ 1000000) (hps : ∀ k ∈ ps, 0 ≤ k ∧ k ≤ 65535) (hd2 : DV.one d2 = true) (ok : ScOk s) (h : TermAt T0 T o s p)
    (hK : ∀ T', T.length ≤ T'.length → TermAt T0 T' o (csiF s 88 ps) p → K (.tup []) T') : CallK PG 34 [.ptr o 0 0, acD ka r 88 pv (.sl sz (intRows .i64 ps) sk) d2] T K := by
  unfold acD
  obtain ⟨k0, q, tq, od, m, pr, d1, e2, e3, pa, t⟩ := id h
  have hb := t.box
  unfold tmBox at hb
  have hr := ok.g.r
  have hc := ok.g.c
  have hy := ok.y
  have hx := ok.x
  have p0 := parN_in hps 0
  have p1 := parN_in hps 1
  have i1 : isInts .i64 (.sl sz (intRows .i64 ps) sk) := isInts_mk hs (inK_P' hl hps)
  have w1 : IntKind.i64.wrap ((s.x : Int) + max (parN ps 0) 1) = (s.x : Int) + max (parN ps 0) 1 := wI64 (by omega) (by omega)
  refine CallK.of_fn TH11_ok rc_tcsi_ok (by simp [rc_tcsi]) ?_
  unfold rc_tcsi
  dsimp only
  simp -implicitDefEqProofs -dsimp only [tb_at, tb_all hb, hd2, TH11_at, F_rpar_1, i1, hl, intsD_sl, TH11_n_to, TH11_n_erase, TH11_n_rows, TH11_n_ins, TH11_n_del, TH11_n_era, TH11_n_reg, TH11_n_clr, TH11_n_att, w1, vcS, ↓vcP1, ↓vcP2, ↓reduceIte, reduceCtorEq, Nat.reduceLT, Nat.reduceLeDiff, Nat.reduceEqDiff, Nat.reduceAdd, Nat.reduceSub, Nat.reduceMul, Int.reduceLT, Int.reduceLE, Int.reduceEq, Int.reduceToNat, Int.reduceAdd, Int.reduceSub, Int.reduceNeg, List.reduceReplicate, Nat.reducePow, Int.reduceMul]
  have t1 := t.mono (Keep.app T [some (Ob.box [.int .i64 ka, .int .i32 r, .int .u8 88, .int .u8 pv, .sl sz (intRows .i64 ps) sk, d2])] [])
  have kk := k0.newApp [some (Ob.box [.int .i64 ka, .int .i32 r, .int .u8 88, .int .u8 pv, .sl sz (intRows .i64 ps) sk, d2])]
  refine gera_K t1.cells ok.g ok.y fun T' p' hp hc' k => ?_
  have hb2 := k.at t1.box (by simp)
  unfold tmBox at hb2
  simp -implicitDefEqProofs -dsimp only [tb_at, tb_all hb2, List.set_set, vcS, ↓vcP1, ↓vcP2, ↓reduceIte, reduceCtorEq, Nat.reduceLT, Nat.reduceLeDiff, Nat.reduceEqDiff, Nat.reduceAdd, Nat.reduceSub, Nat.reduceMul, Int.reduceLT, Int.reduceLE, Int.reduceEq, Int.reduceToNat, Int.reduceAdd, Int.reduceSub, Int.reduceNeg, List.reduceReplicate, Nat.reducePow, Int.reduceMul]
  have ll : T.length ≤ T'.length := by have := k.1; simp at this; omega
  exact ⟨by simpa using ll, hK _ (by simpa using ll) (TermAt.newG (s2 := { s with wrap := false }) pa kk t1 k hp hc' (eraF_len ok.g ok.y) rfl rfl rfl)⟩
theorem tcsi_114 {T0 T : Objs} {o : Nat} {s : Sc} {p : Pa} {sz : Nat} {sk : SK} {ps : List Int} {ka r pv : Int} {d2 : DV} {K : DV → Objs → Prop} (hs : sz = 1 ∨ ps = []) (hl : ps.length ≤ 1000000) (hps : ∀ k ∈ ps, 0 ≤ k ∧ k ≤ 65535) (hd2 : DV.one d2 = true) (ok : ScOk s) (h : TermAt T0 T o s p)
    (hK : ∀ T', T.length ≤ T'.length → TermAt T0 T' o (csiF s 114 ps) p → K (.tup []) T') : CallK PG 34 [.ptr o 0 0, acD ka r 114 pv (.sl sz (intRows .i64 ps) sk) d2] T K := by
  unfold acD
  obtain ⟨k0, q, tq, od, m, pr, d1, e2, e3, pa, t⟩ := id h
  have hb := t.box
  unfold tmBox at hb
  have hr := ok.g.r
  have hc := ok.g.c
  have hy := ok.y
  have hx := ok.x
  have p0 := parN_in hps 0
  have p1 := parN_in hps 1
  have i1 : isInts .i64 (.sl sz (intRows .i64 ps) sk) := isInts_mk hs (inK_P' hl hps)
  have w1 : IntKind.i64.wrap (max (parN ps 0) 1 - 1) = max (parN ps 0) 1 - 1 := wI64 (by omega) (by omega)
  refine CallK.of_fn TH11_ok rc_tcsi_ok (by simp [rc_tcsi]) ?_
  unfold rc_tcsi
  dsimp only
  simp -implicitDefEqProofs -dsimp only [tb_at, tb_all hb, hd2, TH11_at, F_rpar_1, i1, hl, intsD_sl, TH11_n_to, TH11_n_erase, TH11_n_rows, TH11_n_ins, TH11_n_del, TH11_n_era, TH11_n_reg, TH11_n_clr, TH11_n_att, w1, vcS, ↓vcP1, ↓vcP2, ↓reduceIte, reduceCtorEq, Nat.reduceLT, Nat.reduceLeDiff, Nat.reduceEqDiff, Nat.reduceAdd, Nat.reduceSub, Nat.reduceMul, Int.reduceLT, Int.reduceLE, Int.reduceEq, Int.reduceToNat, Int.reduceAdd, Int.reduceSub, Int.reduceNeg, List.reduceReplicate, Nat.reducePow, Int.reduceMul]
  have h1 : TermAt T0 (T ++ [some (Ob.box [.int .i64 ka, .int .i32 r, .int .u8 114, .int .u8 pv, .sl sz (intRows .i64 ps) sk, d2])]) o s p := h.keep (Keep.app _ _ _)
  refine tregion_K ok (by omega) p1.1 h1 fun T' l t' => ?_
  simp -implicitDefEqProofs -dsimp only [tb_at, vcS, ↓vcP1, ↓vcP2, ↓reduceIte, reduceCtorEq, Nat.reduceLT, Nat.reduceLeDiff, Nat.reduceEqDiff, Nat.reduceAdd, Nat.reduceSub, Nat.reduceMul, Int.reduceLT, Int.reduceLE, Int.reduceEq, Int.reduceToNat, Int.reduceAdd, Int.reduceSub, Int.reduceNeg, List.reduceReplicate, Nat.reducePow, Int.reduceMul]
  have ll : T.length ≤ T'.length := by simp at l; omega
  exact ⟨ll, hK _ ll (by rw [csi_reg]; exact t')⟩
theorem tcsi_103 {T0 T : Objs} {o : Nat} {s : Sc} {p : Pa} {sz : Nat} {sk : SK} {ps : List Int} {ka r pv : Int} {d2 : DV} {K : DV → Objs → Prop} (hs : sz = 1 ∨ ps = []) (hl : ps.length ≤ 1000000) (hps : ∀ k ∈ ps, 0 ≤ k ∧ k ≤ 65535) (hd2 : DV.one d2 = true) (ok : ScOk s) (h : TermAt T0 T o s p)
    (hK : ∀ T', T.length ≤ T'.length → TermAt T0 T' o (csiF s 103 ps) p → K (.tup []) T') : CallK PG 34 [.ptr o 0 0, acD ka r 103 pv (.sl sz (intRows .i64 ps) sk) d2] T K := by
  unfold acD
  obtain ⟨k0, q, tq, od, m, pr, d1, e2, e3, pa, t⟩ := id h
  have hb := t.box
  unfold tmBox at hb
  have hr := ok.g.r
  have hc := ok.g.c
  have hy := ok.y
  have hx := ok.x
  have p0 := parN_in hps 0
  have p1 := parN_in hps 1
  have i1 : isInts .i64 (.sl sz (intRows .i64 ps) sk) := isInts_mk hs (inK_P' hl hps)
  refine CallK.of_fn TH11_ok rc_tcsi_ok (by simp [rc_tcsi]) ?_
  unfold rc_tcsi
  dsimp only
  simp -implicitDefEqProofs -dsimp only [tb_at, tb_all hb, hd2, TH11_at, F_rpar_1, i1, hl, intsD_sl, TH11_n_to, TH11_n_erase, TH11_n_rows, TH11_n_ins, TH11_n_del, TH11_n_era, TH11_n_reg, TH11_n_clr, TH11_n_att, vcS, ↓vcP1, ↓vcP2, ↓reduceIte, reduceCtorEq, Nat.reduceLT, Nat.reduceLeDiff, Nat.reduceEqDiff, Nat.reduceAdd, Nat.reduceSub, Nat.reduceMul, Int.reduceLT, Int.reduceLE, Int.reduceEq, Int.reduceToNat, Int.reduceAdd, Int.reduceSub, Int.reduceNeg, List.reduceReplicate, Nat.reducePow, Int.reduceMul]
  have h1 : TermAt T0 (T ++ [some (Ob.box [.int .i64 ka, .int .i32 r, .int .u8 103, .int .u8 pv, .sl sz (intRows .i64 ps) sk, d2])]) o s p := h.keep (Keep.app _ _ _)
  refine tclear_K ok h1 fun T' l t' => ?_
  simp -implicitDefEqProofs -dsimp only [tb_at, vcS, ↓vcP1, ↓vcP2, ↓reduceIte, reduceCtorEq, Nat.reduceLT, Nat.reduceLeDiff, Nat.reduceEqDiff, Nat.reduceAdd, Nat.reduceSub, Nat.reduceMul, Int.reduceLT, Int.reduceLE, Int.reduceEq, Int.reduceToNat, Int.reduceAdd, Int.reduceSub, Int.reduceNeg, List.reduceReplicate, Nat.reducePow, Int.reduceMul]
  have ll : T.length ≤ T'.length := by simp at l; omega
  exact ⟨ll, hK _ ll (by rw [csi_clear ok.tabs]; exact t')⟩
theorem tcsi_109 {T0 T : Objs} {o : Nat} {s : Sc} {p : Pa} {sz : Nat} {sk : SK} {ps : List Int} {ka r pv : Int} {d2 : DV} {K : DV → Objs → Prop} (hs : sz = 1 ∨ ps = []) (hl : ps.length ≤ 1000000) (hps : ∀ k ∈ ps, 0 ≤ k ∧ k ≤ 65535) (hd2 : DV.one d2 = true) (ok : ScOk s) (h : TermAt T0 T o s p)
    (hK : ∀ T', T.length ≤ T'.length → TermAt T0 T' o (csiF s 109 ps) p → K (.tup []) T') : CallK PG 34 [.ptr o 0 0, acD ka r 109 pv (.sl sz (intRows .i64 ps) sk) d2] T K := by
  unfold acD
  obtain ⟨k0, q, tq, od, m, pr, d1, e2, e3, pa, t⟩ := id h
  have hb := t.box
  unfold tmBox at hb
  have hr := ok.g.r
  have hc := ok.g.c
  have hy := ok.y
  have hx := ok.x
  have p0 := parN_in hps 0
  have p1 := parN_in hps 1
  have i1 : isInts .i64 (.sl sz (intRows .i64 ps) sk) := isInts_mk hs (inK_P' hl hps)
  refine CallK.of_fn TH11_ok rc_tcsi_ok (by simp [rc_tcsi]) ?_
  unfold rc_tcsi
  dsimp only
  simp -implicitDefEqProofs -dsimp only [tb_at, tb_all hb, hd2, TH11_at, F_rpar_1, i1, hl, intsD_sl, TH11_n_to, TH11_n_erase, TH11_n_rows, TH11_n_ins, TH11_n_del, TH11_n_era, TH11_n_reg, TH11_n_clr, TH11_n_att, vcS, ↓vcP1, ↓vcP2, ↓reduceIte, reduceCtorEq, Nat.reduceLT, Nat.reduceLeDiff, Nat.reduceEqDiff, Nat.reduceAdd, Nat.reduceSub, Nat.reduceMul, Int.reduceLT, Int.reduceLE, Int.reduceEq, Int.reduceToNat, Int.reduceAdd, Int.reduceSub, Int.reduceNeg, List.reduceReplicate, Nat.reducePow, Int.reduceMul]
  have h1 : TermAt T0 (T ++ [some (Ob.box [.int .i64 ka, .int .i32 r, .int .u8 109, .int .u8 pv, .sl sz (intRows .i64 ps) sk, d2])]) o s p := h.keep (Keep.app _ _ _)
  refine tattrs_K hs hps hl ok h1 fun T' l t' => ?_
  simp -implicitDefEqProofs -dsimp only [tb_at, vcS, ↓vcP1, ↓vcP2, ↓reduceIte, reduceCtorEq, Nat.reduceLT, Nat.reduceLeDiff, Nat.reduceEqDiff, Nat.reduceAdd, Nat.reduceSub, Nat.reduceMul, Int.reduceLT, Int.reduceLE, Int.reduceEq, Int.reduceToNat, Int.reduceAdd, Int.reduceSub, Int.reduceNeg, List.reduceReplicate, Nat.reducePow, Int.reduceMul]
  have ll : T.length ≤ T'.length := by simp at l; omega
  exact ⟨ll, hK _ ll t'⟩
theorem tcsi_no {T0 T : Objs} {o : Nat} {s : Sc} {p : Pa} {sz : Nat} {sk : SK} {ps : List Int} {ka r b pv : Int} {d2 : DV} {K : DV → Objs → Prop} (hs : sz = 1 ∨ ps = []) (hl : ps.length ≤ 1000000) (hps : ∀ k ∈ ps, 0 ≤ k ∧ k ≤ 65535) (hd2 : DV.one d2 = true) (h : TermAt T0 T o s p)
    (hn : ¬ b = 65 ∧ ¬ b = 66 ∧ ¬ b = 67 ∧ ¬ b = 68 ∧ ¬ b = 71 ∧ ¬ b = 96 ∧ ¬ b = 100 ∧ ¬ b = 72 ∧ ¬ b = 102 ∧ ¬ b = 74 ∧ ¬ b = 75 ∧ ¬ b = 76 ∧ ¬ b = 77 ∧ ¬ b = 83 ∧ ¬ b = 84 ∧ ¬ b = 64 ∧ ¬ b = 80 ∧ ¬ b = 88 ∧ ¬ b = 114 ∧ ¬ b = 103 ∧ ¬ b = 109) (hK : ∀ T', T.length ≤ T'.length → TermAt T0 T' o s p → K (.tup []) T') : CallK PG 34 [.ptr o 0 0, acD ka r b pv (.sl sz (intRows .i64 ps) sk) d2] T K := by
  unfold acD
  obtain ⟨n65, n66, n67, n68, n71, n96, n100, n72, n102, n74, n75, n76, n77, n83, n84, n64, n80, n88, n114, n103, n109⟩ := hn
  have i1 : isInts .i64 (.sl sz (intRows .i64 ps) sk) := isInts_mk hs (inK_P' hl hps)
  refine CallK.of_fn TH11_ok rc_tcsi_ok (by simp [rc_tcsi]) ?_
  unfold rc_tcsi
  dsimp only
  simp -implicitDefEqProofs -dsimp only [tb_at, hd2, TH11_at, F_rpar_1, i1, hl, intsD_sl, eq_false n65, eq_false n66, eq_false n67, eq_false n68, eq_false n71, eq_false n96, eq_false n100, eq_false n72, eq_false n102, eq_false n74, eq_false n75, eq_false n76, eq_false n77, eq_false n83, eq_false n84, eq_false n64, eq_false n80, eq_false n88, eq_false n114, eq_false n103, eq_false n109, vcS, ↓vcP1, ↓vcP2, ↓reduceIte, reduceCtorEq, Nat.reduceLT, Nat.reduceLeDiff, Nat.reduceEqDiff, Nat.reduceAdd, Nat.reduceSub, Nat.reduceMul, Int.reduceLT, Int.reduceLE, Int.reduceEq, Int.reduceToNat, Int.reduceAdd, Int.reduceSub, Int.reduceNeg, List.reduceReplicate, Nat.reducePow, Int.reduceMul]
  exact hK _ (by simp) (h.keep (Keep.app _ _ _))
theorem tcsi_K {T0 T : Objs} {o : Nat} {s : Sc} {p : Pa} {sz : Nat} {sk : SK} {ps : List Int} {ka r b pv : Int} {d2 : DV} {K : DV → Objs → Prop} (hs : sz = 1 ∨ ps = []) (hl : ps.length ≤ 1000000) (hps : ∀ k ∈ ps, 0 ≤ k ∧ k ≤ 65535) (hd2 : DV.one d2 = true) (ok : ScOk s) (h : TermAt T0 T o s p)
    (hK : ∀ T', T.length ≤ T'.length → TermAt T0 T' o (csiF s b ps) p → K (.tup []) T') : CallK PG 34 [.ptr o 0 0, acD ka r b pv (.sl sz (intRows .i64 ps) sk) d2] T K := by
  rcases Decidable.em (b = 65) with e | n65
  · subst e; exact tcsi_65 hs hl hps hd2 ok h hK
  rcases Decidable.em (b = 66) with e | n66
  · subst e; exact tcsi_66 hs hl hps hd2 ok h hK
  rcases Decidable.em (b = 67) with e | n67
  · subst e; exact tcsi_67 hs hl hps hd2 ok h hK
  rcases Decidable.em (b = 68) with e | n68
  · subst e; exact tcsi_68 hs hl hps hd2 ok h hK
  rcases Decidable.em (b = 71) with e | n71
  · subst e; exact tcsi_71 hs hl hps hd2 ok h hK
  rcases Decidable.em (b = 96) with e | n96
  · subst e; exact tcsi_96 hs hl hps hd2 ok h hK
  rcases Decidable.em (b = 100) with e | n100
  · subst e; exact tcsi_100 hs hl hps hd2 ok h hK
  rcases Decidable.em (b = 72) with e | n72
  · subst e; exact tcsi_72 hs hl hps hd2 ok h hK
  rcases Decidable.em (b = 102) with e | n102
  · subst e; exact tcsi_102 hs hl hps hd2 ok h hK
  rcases Decidable.em (b = 74) with e | n74
  · subst e; exact tcsi_74 hs hl hps hd2 ok h hK
  rcases Decidable.em (b = 75) with e | n75
  · subst e; exact tcsi_75 hs hl hps hd2 ok h hK
  rcases Decidable.em (b = 76) with e | n76
  · subst e; exact tcsi_76 hs hl hps hd2 ok h hK
  rcases Decidable.em (b = 77) with e | n77
  · subst e; exact tcsi_77 hs hl hps hd2 ok h hK
  rcases Decidable.em (b = 83) with e | n83
  · subst e; exact tcsi_83 hs hl hps hd2 ok h hK
  rcases Decidable.em (b = 84) with e | n84
  · subst e; exact tcsi_84 hs hl hps hd2 ok h hK
  rcases Decidable.em (b = 64) with e | n64
  · subst e; exact tcsi_64 hs hl hps hd2 ok h hK
  rcases Decidable.em (b = 80) with e | n80
  · subst e; exact tcsi_80 hs hl hps hd2 ok h hK
  rcases Decidable.em (b = 88) with e | n88
  · subst e; exact tcsi_88 hs hl hps hd2 ok h hK
  rcases Decidable.em (b = 114) with e | n114
  · subst e; exact tcsi_114 hs hl hps hd2 ok h hK
  rcases Decidable.em (b = 103) with e | n103
  · subst e; exact tcsi_103 hs hl hps hd2 ok h hK
  rcases Decidable.em (b = 109) with e | n109
  · subst e; exact tcsi_109 hs hl hps hd2 ok h hK
  have e : csiF s b ps = s := by
    unfold csiF
    dsimp only
    rw [if_neg n65, if_neg n66, if_neg n67, if_neg n68, if_neg (by omega), if_neg n100, if_neg (by omega), if_neg n74, if_neg n75, if_neg n76, if_neg n77, if_neg n83, if_neg n84, if_neg n64, if_neg n80, if_neg n88, if_neg n114, if_neg n103, if_neg n109]
  rw [e] at hK
  exact tcsi_no hs hl hps hd2 h ⟨n65, n66, n67, n68, n71, n96, n100, n72, n102, n74, n75, n76, n77, n83, n84, n64, n80, n88, n114, n103, n109⟩ hK
end Go.Proofs.YtjmnbpilnneonaaDoor
